/- The program follows what its translator says. -/
import Derived.Test.YtlfedmjjjbhnpaaS2za
import Derived.Test.YtlfedmjjjbhnpaaProg
import Derived.KernelRfl
import Derived.Test.YtlfedmjjjbhnpaaRep
namespace Go.Proofs.Ytlfedmjjjbhnpaa.S2
open Go
theorem mixT : Try.prog.follows .mixedOrders = true := by kernel_rfl
end Go.Proofs.Ytlfedmjjjbhnpaa.S2
