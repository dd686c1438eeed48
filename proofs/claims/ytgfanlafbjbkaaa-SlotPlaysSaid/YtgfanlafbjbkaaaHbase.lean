/- The program follows what its translator says. -/
import Derived.Test.YtgfanlafbjbkaaaS2za
import Derived.Test.YtgfanlafbjbkaaaProg
import Derived.KernelRfl
import Derived.Test.YtgfanlafbjbkaaaRep
namespace Go.Proofs.Ytgfanlafbjbkaaa.S2
open Go
theorem mixT : Try.prog.follows .mixedOrders = true := by kernel_rfl
end Go.Proofs.Ytgfanlafbjbkaaa.S2
