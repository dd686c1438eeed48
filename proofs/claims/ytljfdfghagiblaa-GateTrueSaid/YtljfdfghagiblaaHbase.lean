/- The program follows what its translator says. -/
import Derived.Test.YtljfdfghagiblaaS2za
import Derived.Test.YtljfdfghagiblaaProg
import Derived.KernelRfl
import Derived.Test.YtljfdfghagiblaaRep
namespace Go.Proofs.Ytljfdfghagiblaa.S2
open Go
theorem mixT:Try.prog.follows .mixedOrders = true:=by kernel_rfl
end Go.Proofs.Ytljfdfghagiblaa.S2
