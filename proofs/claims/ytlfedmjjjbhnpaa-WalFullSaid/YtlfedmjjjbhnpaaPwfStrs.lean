/- What the bounds of lists of texts say. -/
import Derived.Test.YtlfedmjjjbhnpaaS2za
namespace Go.Proofs.Ytlfedmjjjbhnpaa.S2
open Go
theorem strs_wf {P : Program} {e : TypeId} {l : List ByteArray} (h : (Prim.slc e (Row.cons .str .nil)).wf P l) (hn : P.bytesOf e = 16) : (∀ t ∈ l, t.size ≤ 281474976710656) ∧ (l.length : Int) < 9223372036854775808 := by
  obtain ⟨h1, h2⟩ := wf_slc h hn
  have h1 : l.length * 16 ≤ 140737488351232 := h1
  refine ⟨fun t ht => ?_, by omega⟩
  obtain ⟨j, hj, rfl⟩ := List.mem_iff_getElem.1 ht
  have h3 : l[j].size ≤ 140737488351232 := h2 j hj
  omega
theorem u64s_wf {P : Program} {e : TypeId} {l : List Int} (h : (Prim.slc e (Row.cons (.int .u64) .nil)).wf P l) : ∀ j : Nat, j < l.length → 0 ≤ l.getD j 0 ∧ l.getD j 0 < 18446744073709551616 := by
  intro j hj
  have h3 : (Prim.int .u64).wf P l[j] := h.2 j hj
  rw [List.getD_eq_getElem?_getD, List.getElem?_eq_getElem hj]
  exact wf_u64 h3
end Go.Proofs.Ytlfedmjjjbhnpaa.S2
