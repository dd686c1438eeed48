/- What the bounds of lists say of their elements. -/
import Derived.Test.YtljfdfghagiblaaS2za
import Derived.Test.YtljfdfghagiblaaPmwire
namespace Go.Proofs.Ytljfdfghagiblaa.S2
open Go
theorem wf_Us {P:Program} {e:TypeId} {xs:List Int} (h:(Prim.slc e (.cons (.int .u64) .nil)).wf P xs):∀ x,x∈xs→Mk.U x:=by
  intro x hx
  obtain ⟨j,hj,rfl⟩:=List.mem_iff_getElem.1 hx
  exact wf_u64 ((wf_slc h rfl).2 j hj)
theorem wf_S {P:Program} {s:ByteArray} (h:Prim.str.wf P s):s.size≤140737488355328:=Nat.le_trans h (by decide)
theorem few8' {n:Nat} (h:n * 8≤140737488351232):n≤17592186044416:=by omega
end Go.Proofs.Ytljfdfghagiblaa.S2
