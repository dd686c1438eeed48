/- The program follows what its translator says. -/
import Derived.Test.YtjhaidbfahobmaaS2za
import Derived.Test.YtjhaidbfahobmaaProg
import Derived.KernelRfl
namespace Go.Proofs.Ytjhaidbfahobmaa.S2
open Go
theorem mixT : Try.prog.follows .mixedOrders = true := by kernel_rfl
end Go.Proofs.Ytjhaidbfahobmaa.S2
