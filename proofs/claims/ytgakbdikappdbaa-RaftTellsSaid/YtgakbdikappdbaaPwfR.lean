/- What the bounds of a node's entries say of their texts. -/
import Derived.Test.YtgakbdikappdbaaS2za
import Derived.Test.YtgakbdikappdbaaPraft1
namespace Go.Proofs.Ytgakbdikappdbaa.S2
open Go
theorem wf_ents {P : Program} {e : TypeId} {xs : List E} (h : (Prim.slc e (.cons (.int .u64) (.cons (.int .i64) (.cons .str .nil)))).wf P xs) : ∀ x ∈ xs, x.2.2.size ≤ 140737488355328 := by
  intro x hx
  obtain ⟨j, hj, rfl⟩ := List.mem_iff_getElem.1 hx
  obtain ⟨_, _, h3⟩ := (wf_slc h rfl).2 j hj
  exact Nat.le_trans h3 (by decide)
end Go.Proofs.Ytgakbdikappdbaa.S2
