/- What the bounds of an act say. -/
import Derived.Test.YtlfedmjjjbhnpaaP22
import Derived.Test.YtlfedmjjjbhnpaaS2za
namespace Go.Proofs.Ytlfedmjjjbhnpaa.S2
open Go
theorem act_wf {P : Program} {e0 : TypeId} {x : ActS} (h : (Row.cons (.int .i64) (.cons (.int .i64) (.cons (.int .u64) (.cons (.int .u64) (.cons .str (.cons (.slc e0 (.cons (.int .i64) .nil)) .nil)))))).wf P x) : ActOk x := by
  obtain ⟨_, _, h3, h4, h5, _⟩ := h
  have h5 : x.2.2.2.2.1.size ≤ 140737488351232 := h5
  exact ⟨wf_u64 h3, wf_u64 h4, by omega⟩
theorem acts_wf {P : Program} {e e0 : TypeId} {l : List ActS} (h : (Prim.slc e (Row.cons (.int .i64) (.cons (.int .i64) (.cons (.int .u64) (.cons (.int .u64) (.cons .str (.cons (.slc e0 (.cons (.int .i64) .nil)) .nil))))))).wf P l) : ∀ j, j < l.length → ActOk (l.getD j (0, 0, 0, 0, ByteArray.empty, [])) := by
  intro j hj
  have := act_wf (h.2 j hj)
  rw [List.getD_eq_getElem?_getD, List.getElem?_eq_getElem hj]
  exact this
end Go.Proofs.Ytlfedmjjjbhnpaa.S2
