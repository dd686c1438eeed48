/- What the bounds of lists say of their elements. -/
import Derived.Test.YtljfdfghagiblaaS2za
import Derived.Test.YtljfdfghagiblaaPmwire
import Derived.Test.YtljfdfghagiblaaP23a
namespace Go.Proofs.Ytljfdfghagiblaa.S2
open Go
theorem wf_Us {P:Program} {e:TypeId} {xs:List Int} (h:(Prim.slc e (.cons (.int .u64) .nil)).wf P xs):∀ x,x∈xs→Mk.U x:=by
  intro x hx
  obtain ⟨j,hj,rfl⟩:=List.mem_iff_getElem.1 hx
  exact wf_u64 ((wf_slc h rfl).2 j hj)
theorem wf_S {P:Program} {s:ByteArray} (h:Prim.str.wf P s):s.size≤140737488355328:=Nat.le_trans h (by decide)
theorem few8' {n:Nat} (h:n * 8≤140737488351232):n≤17592186044416:=by omega
end Go.Proofs.Ytljfdfghagiblaa.S2
namespace Go.Proofs.Ytljfdfghagiblaa.S2.Mk
open Go Go.Proofs.Ytljfdfghagiblaa.S2
theorem few120 {n:Nat} (h:n * 120≤140737488351232):n≤1172812402926:=by omega
theorem actG_wf {P:Program} {e0 e1:TypeId} {x:ActG} (hb:P.bytesOf e0 = 8) (h:(Row.cons (.int .i64) (.cons (.int .i64) (.cons (.int .i64) (.cons (.int .u64) (.cons (.int .u64) (.cons .str (.cons .str (.cons (.slc e0 (.cons (.int .u64) .nil)) (.cons (.slc e1 (.cons (.int .i64) .nil)) .nil))))))))).wf P x):ActOkG x:=by
  obtain ⟨_,_,_,h3,h4,h5,h6,h7,_⟩:=h
  have k1:=few8' (wf_slc h7 (n:=8) hb).1
  exact ⟨wf_u64 h3,wf_u64 h4,⟨wf_S h6,wf_Us h7,Nat.le_trans k1 (by decide)⟩,wf_S h5⟩
theorem actGs_wf {P:Program} {e e0 e1:TypeId} {l:List ActG} (hb:P.bytesOf e0 = 8) (h:(Prim.slc e (Row.cons (.int .i64) (.cons (.int .i64) (.cons (.int .i64) (.cons (.int .u64) (.cons (.int .u64) (.cons .str (.cons .str (.cons (.slc e0 (.cons (.int .u64) .nil)) (.cons (.slc e1 (.cons (.int .i64) .nil)) .nil)))))))))).wf P l):∀ x∈l,ActOkG x:=by
  intro x hx
  obtain ⟨j,hj,rfl⟩:=List.mem_iff_getElem.1 hx
  exact actG_wf hb (h.2 j hj)
end Go.Proofs.Ytljfdfghagiblaa.S2.Mk
