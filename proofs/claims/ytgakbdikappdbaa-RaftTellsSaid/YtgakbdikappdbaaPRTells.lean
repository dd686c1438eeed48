/- The members of any node at any index, and a node that begins, in plain words. -/
import Derived.Test.YtgakbdikappdbaaPraft2
import Derived.Test.YtgakbdikappdbaaPvote2
import Derived.Test.YtgakbdikappdbaaGLRaftTells
set_option linter.unusedVariables false
namespace Go.Proofs.Ytgakbdikappdbaa.S2
open Go
theorem e_Start {i : Int} {l : List Int} (h : l.length ≤ 255) : F_raft_Start (i, l, ()) () = some ((i, onceS l, 0, 0, 0, 0, [], ByteArray.empty, 0, 0, 0, [], [], 0, ()), ()) := by
  rw [Fe_raft_Start]
  unfold tree_raft_Start
  have hV : F_slices_Values_uint64 (l, ()) () = some ((), ((l, ()), ())) := rfl
  refine bindS hV ?_
  have hS : F_slices_Sorted_uint64 ((), ()) ((l, ()), ()) = some ((), ((l, ()), (sorted l, ()))) := by
    rw [Fe_slices_Sorted_uint64]
    unfold tree_slices_Sorted_uint64
    have hC : F_slices_Collect_uint64 ((), ()) ((l, ()), ()) = some ((), ((l, ()), (l, ()))) := by
      rw [Fe_slices_Collect_uint64]
      unfold tree_slices_Collect_uint64
      have hA : F_slices_AppendSeq_uint64 ((), ()) ((l, ()), ()) = some ((), (l, ())) := by
        unfold F_slices_AppendSeq_uint64
        exact cd_t (by dsimp only; omega)
      exact bindS hA rfl
    refine bindS hC ?_
    exact bindS (e_Sort (by omega)) rfl
  refine bindS hS ?_
  exact bindS (e_Compact (xs := sorted l) (zs := l) (sorted_pairwise l) (by rw [sorted_length]; omega) (fun x => mem_sorted)) rfl
theorem r_Start {i : Int} {l : List Int} (h : l.length ≤ 255) : F_ref18_Start (i, l, ()) () = some ((i, onceS l, 0, 0, 0, 0, [], ByteArray.empty, 0, 0, 0, [], [], 0, ()), ()) := by
  rw [Fe_ref18_Start]
  unfold tree_ref18_Start
  exact bindS (e_ref_Once (by omega)) rfl
theorem RaftTells_plain (x : Nd) (i : Int) (hs : ∀ e ∈ x.2.2.2.2.2.2.1, e.2.2.size ≤ 140737488355328) : F_law18_RaftTells (x, i, ()) () = some (true, ()) := by
  obtain ⟨x1, x2, x3, x4, x5, x6, x7, x8, x9, x10, x11, x12, x13, x14, ⟨⟩⟩ := x
  have hs : ∀ e ∈ x7, e.2.2.size ≤ 140737488355328 := hs
  rw [Fe_law18_RaftTells]
  unfold tree_law18_RaftTells
  refine bindS e_fixed18 ?_
  obtain ⟨b, hb, hm⟩ := e_May18 x1 x2 x3 x4 x5 x6 x7 x8 x9 x10 x11 x12 x13 x14
  refine bindS hb ?_
  cases b with
  | false =>
    dsimp only
    rw [c_t (b := !false) rfl]
    exact bindS e_fixed18 rfl
  | true =>
    obtain ⟨h2, h7, h12, h13⟩ := hm rfl
    dsimp only
    rw [c_f (b := !true) rfl]
    refine bindS (e_Members x1 x2 x3 x4 x5 x6 x7 x8 x9 x10 x11 x12 x13 x14 i h2 h7 hs) ?_
    refine bindS (r_Members x1 x2 x3 x4 x5 x6 x7 x8 x9 x10 x11 x12 x13 x14 i h2 h7) ?_
    have hlen := membersS_len x2 x5 x7 i h2
    refine bindS (e_Nums_refl (a := membersS x5 i x7 x2) (by omega)) ?_
    dsimp only
    rw [c_t rfl]
    have ho := onceS_length x2
    refine bindS (e_Start (by omega)) ?_
    refine bindS (r_Start (by omega)) ?_
    exact bindS (e_Is18_refl i (onceS x2) 0 0 0 0 [] ByteArray.empty 0 0 0 [] [] 0 (by omega) (by simp) (by simp) (by simp)) rfl
end Go.Proofs.Ytgakbdikappdbaa.S2
