/- The program follows what its translator says. -/
import Derived.Test.YtgakbdikappdbaaGreatS2za
import Derived.Test.YtgakbdikappdbaaGreatProg
import Derived.KernelRfl
import Derived.Test.YtgakbdikappdbaaGreatS2ev
namespace Go.Proofs.YtgakbdikappdbaaGreat.S2
open Go
theorem mixT : Tryz.prog.follows .mixedOrders = true := by kernel_rfl
end Go.Proofs.YtgakbdikappdbaaGreat.S2
