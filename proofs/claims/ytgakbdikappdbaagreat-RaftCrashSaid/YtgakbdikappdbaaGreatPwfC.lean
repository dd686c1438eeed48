/- What the bounds of a message's numbers say. -/
import Derived.Test.YtgakbdikappdbaaGreatS2za
import Derived.Test.YtgakbdikappdbaaGreatPraft3
namespace Go.Proofs.YtgakbdikappdbaaGreat.S2
open Go
theorem wf_Uq {P : Program} {e : TypeId} {xs : List Int} (h : (Prim.slc e (.cons (.int .u64) .nil)).wf P xs) : ∀ x ∈ xs, Uq x := by
  intro x hx
  obtain ⟨j, hj, rfl⟩ := List.mem_iff_getElem.1 hx
  exact wf_u64 ((wf_slc h rfl).2 j hj)
end Go.Proofs.YtgakbdikappdbaaGreat.S2
