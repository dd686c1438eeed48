/- The program follows what its translator says. -/
import Derived.Test.YtgakbdikappdbaaS2za
import Derived.Test.YtgakbdikappdbaaProg
import Derived.KernelRfl
import Derived.Test.YtgakbdikappdbaaS2ev
namespace Go.Proofs.Ytgakbdikappdbaa.S2
open Go
theorem mixT : Try.prog.follows .mixedOrders = true := by kernel_rfl
end Go.Proofs.Ytgakbdikappdbaa.S2
