/- Plain forms of the program's functions, by program. -/
import Derived.Test.YtgakbdikappdbaaGapp
import Derived.Test.YtgakbdikappdbaaGsort
set_option maxRecDepth 100000
set_option maxHeartbeats 0
set_option linter.unusedVariables false
set_option linter.unusedSimpArgs false
namespace Go.Proofs.Ytgakbdikappdbaa.S2
open Go
def args_slices_Values_uint64 : SkL := (.cons (.leaf (.slc 22 (.cons (.int .u64) .nil))) .nil)
def mem_slices_Values_uint64 : MSk := []
def outs_slices_Values_uint64 : List OutC := [⟨(.fn 35 (.cons (.const (.ptr 0 0 0)) .nil)), [(0, .cells (.cons (.leaf (.slc 22 (.cons (.int .u64) .nil))) .nil))]⟩]
abbrev A_slices_Values_uint64 : Type := (List Int × Unit)
abbrev M_slices_Values_uint64 : Type := Unit
abbrev O_slices_Values_uint64 : Type := Unit × ((List Int × Unit) × Unit)
def tree_slices_Values_uint64 {α : Type} (x1 : List Int) (K : O_slices_Values_uint64 → Option α) : Option α :=
  K ((), ((x1, ()), ()))
noncomputable def F_slices_Values_uint64 : A_slices_Values_uint64 → M_slices_Values_uint64 → Option O_slices_Values_uint64 := fun a b => tree_slices_Values_uint64 a.1 some
theorem n_slices_Values_uint64 (x1 : List Int) {α : Type} (K : O_slices_Values_uint64 → Option α) : tree_slices_Values_uint64 x1 K = (tree_slices_Values_uint64 x1 some).bind K := by simp only [tree_slices_Values_uint64, bind_cond, bind_none', bind_some', bind_bind', bind_sum]
def args_slices_Collect_uint64 : SkL := (.cons (.fn 35 (.cons (.const (.ptr 0 0 0)) .nil)) .nil)
def mem_slices_Collect_uint64 : MSk := [(0, .cells (.cons (.leaf (.slc 22 (.cons (.int .u64) .nil))) .nil))]
def outs_slices_Collect_uint64 : List OutC := [⟨(.const (.slw 1)), [(0, .cells (.cons (.leaf (.slc 22 (.cons (.int .u64) .nil))) .nil)), (1, .row 22 (.cons (.int .u64) .nil))]⟩]
abbrev A_slices_Collect_uint64 : Type := (Unit × Unit)
abbrev M_slices_Collect_uint64 : Type := ((List Int × Unit) × Unit)
abbrev O_slices_Collect_uint64 : Type := Unit × ((List Int × Unit) × List Int × Unit)
def tree_slices_Collect_uint64 (F_slices_AppendSeq_uint64 : A_slices_AppendSeq_uint64 → M_slices_AppendSeq_uint64 → Option O_slices_AppendSeq_uint64) {α : Type} (x1 : List Int) (K : O_slices_Collect_uint64 → Option α) : Option α :=
  (F_slices_AppendSeq_uint64 ((), ()) ((x1, ()), ())).bind fun r1 =>
  K ((), ((x1, ()), (r1.snd.fst, ())))
noncomputable def F_slices_Collect_uint64 : A_slices_Collect_uint64 → M_slices_Collect_uint64 → Option O_slices_Collect_uint64 := fun a b => tree_slices_Collect_uint64 F_slices_AppendSeq_uint64 b.1.1 some
theorem n_slices_Collect_uint64 (F_slices_AppendSeq_uint64 : A_slices_AppendSeq_uint64 → M_slices_AppendSeq_uint64 → Option O_slices_AppendSeq_uint64) (x1 : List Int) {α : Type} (K : O_slices_Collect_uint64 → Option α) : tree_slices_Collect_uint64 F_slices_AppendSeq_uint64 x1 K = (tree_slices_Collect_uint64 F_slices_AppendSeq_uint64 x1 some).bind K := by simp only [tree_slices_Collect_uint64, bind_cond, bind_none', bind_some', bind_bind', bind_sum]
theorem Fe_slices_Collect_uint64 (x1 : List Int) : F_slices_Collect_uint64 ((), ()) ((x1, ()), ()) = tree_slices_Collect_uint64 F_slices_AppendSeq_uint64 x1 some := rfl
def args_slices_Sorted_uint64 : SkL := (.cons (.fn 35 (.cons (.const (.ptr 0 0 0)) .nil)) .nil)
def mem_slices_Sorted_uint64 : MSk := [(0, .cells (.cons (.leaf (.slc 22 (.cons (.int .u64) .nil))) .nil))]
def outs_slices_Sorted_uint64 : List OutC := [⟨(.const (.slw 1)), [(0, .cells (.cons (.leaf (.slc 22 (.cons (.int .u64) .nil))) .nil)), (1, .row 22 (.cons (.int .u64) .nil))]⟩]
abbrev A_slices_Sorted_uint64 : Type := (Unit × Unit)
abbrev M_slices_Sorted_uint64 : Type := ((List Int × Unit) × Unit)
abbrev O_slices_Sorted_uint64 : Type := Unit × ((List Int × Unit) × List Int × Unit)
def tree_slices_Sorted_uint64 (F_slices_Collect_uint64 : A_slices_Collect_uint64 → M_slices_Collect_uint64 → Option O_slices_Collect_uint64) (F_slices_Sort_uint64 : A_slices_Sort_uint64 → M_slices_Sort_uint64 → Option O_slices_Sort_uint64) {α : Type} (x1 : List Int) (K : O_slices_Sorted_uint64 → Option α) : Option α :=
  (F_slices_Collect_uint64 ((), ()) ((x1, ()), ())).bind fun r1 =>
  (F_slices_Sort_uint64 () (r1.snd.snd.fst, ())).bind fun r2 =>
  K ((), ((r1.snd.fst.fst, ()), (r2.snd.fst, ())))
noncomputable def F_slices_Sorted_uint64 : A_slices_Sorted_uint64 → M_slices_Sorted_uint64 → Option O_slices_Sorted_uint64 := fun a b => tree_slices_Sorted_uint64 F_slices_Collect_uint64 F_slices_Sort_uint64 b.1.1 some
theorem n_slices_Sorted_uint64 (F_slices_Collect_uint64 : A_slices_Collect_uint64 → M_slices_Collect_uint64 → Option O_slices_Collect_uint64) (F_slices_Sort_uint64 : A_slices_Sort_uint64 → M_slices_Sort_uint64 → Option O_slices_Sort_uint64) (x1 : List Int) {α : Type} (K : O_slices_Sorted_uint64 → Option α) : tree_slices_Sorted_uint64 F_slices_Collect_uint64 F_slices_Sort_uint64 x1 K = (tree_slices_Sorted_uint64 F_slices_Collect_uint64 F_slices_Sort_uint64 x1 some).bind K := by simp only [tree_slices_Sorted_uint64, bind_cond, bind_none', bind_some', bind_bind', bind_sum]
theorem Fe_slices_Sorted_uint64 (x1 : List Int) : F_slices_Sorted_uint64 ((), ()) ((x1, ()), ()) = tree_slices_Sorted_uint64 F_slices_Collect_uint64 F_slices_Sort_uint64 x1 some := rfl
def args_slices_Compact_uint64 : SkL := (.cons (.const (.slw 0)) .nil)
def mem_slices_Compact_uint64 : MSk := [(0, .row 22 (.cons (.int .u64) .nil))]
def outs_slices_Compact_uint64 : List OutC := [⟨(.const (.slw 1)), [(0, .gone), (1, .row 22 (.cons (.int .u64) .nil))]⟩]
abbrev A_slices_Compact_uint64 : Type := Unit
abbrev M_slices_Compact_uint64 : Type := (List Int × Unit)
abbrev O_slices_Compact_uint64 : Type := Unit × (Unit × List Int × Unit)
def ltmps_slices_Compact_uint64_9 : SkL := (.cons (.const (.slw 0)) (dz 2 (.cons (.leaf (.int .i64)) (.cons (.piece 0) (.cons (.leaf (.int .i64)) (dz 55 .nil))))))
def lmem_slices_Compact_uint64_9 : MSk := [(0, .row 22 (.cons (.int .u64) .nil))]
def louts_slices_Compact_uint64_9 : List OutL := [⟨(.exit 2), (.cons (.const (.slw 0)) (dz 2 (.cons (.leaf (.int .i64)) (dz 57 .nil)))), [(0, .row 22 (.cons (.int .u64) .nil))]⟩]
abbrev LT_slices_Compact_uint64_9 : Type := (Int × (Nat × Nat) × Int × Unit)
abbrev LM_slices_Compact_uint64_9 : Type := (List Int × Unit)
abbrev LO_slices_Compact_uint64_9 : Type := (Int × Unit) × (List Int × Unit)
def ltree_slices_Compact_uint64_9 {α : Type} (x1 : Int) (x2 : Nat × Nat) (x3 : Int) (x4 : List Int) (kn : LT_slices_Compact_uint64_9 → LM_slices_Compact_uint64_9 → Option α) (kr : LO_slices_Compact_uint64_9 → Option α) : Option α :=
  cond (decide (x3 < (↑x2.snd : Int)))
  (cond (decide (0 ≤ x3))
   (cond (decide (x3 < (↑x2.snd : Int)))
    (cond (decide (0 ≤ IntKind.i64.wrap (x3 - 1)))
     (cond (decide (IntKind.i64.wrap (x3 - 1) < (↑x2.snd : Int)))
      (cond (x4.getD (x2.fst + x3.toNat) 0 != x4.getD (x2.fst + (IntKind.i64.wrap (x3 - 1)).toNat) 0)
       (cond (decide (0 ≤ x3))
        (cond (decide (x3 < (↑x2.snd : Int)))
         (cond (decide (0 ≤ x1))
          (cond (decide (x1 < (↑x4.length : Int)))
           (kn (IntKind.i64.wrap (x1 + 1), ((x2.fst, x2.snd), (IntKind.i64.wrap (x3 + 1), ()))) (x4.set (0 + x1.toNat) (x4.getD (x2.fst + x3.toNat) 0), ()))
           (none))
          (none))
         (none))
        (none))
       (kn (x1, ((x2.fst, x2.snd), (IntKind.i64.wrap (x3 + 1), ()))) (x4, ())))
      (none))
     (none))
    (none))
   (none))
  (kr ((x1, ()), (x4, ())))
noncomputable def L_slices_Compact_uint64_9 : LT_slices_Compact_uint64_9 → LM_slices_Compact_uint64_9 → Option LO_slices_Compact_uint64_9 := fun x y => runL (fun p => (fun (a : LT_slices_Compact_uint64_9) (b : LM_slices_Compact_uint64_9) => ltree_slices_Compact_uint64_9 a.1 a.2.1 a.2.2.1 b.1 (fun a' b' => some (.inl (a', b'))) fun r => some (.inr r)) p.1 p.2) (x, y)
theorem nl_slices_Compact_uint64_9 (x1 : Int) (x2 : Nat × Nat) (x3 : Int) (x4 : List Int) {α : Type} (kn : LT_slices_Compact_uint64_9 → LM_slices_Compact_uint64_9 → Option α) (kr : LO_slices_Compact_uint64_9 → Option α) : ltree_slices_Compact_uint64_9 x1 x2 x3 x4 kn kr = (ltree_slices_Compact_uint64_9 x1 x2 x3 x4 (fun a b => some (.inl (a, b))) fun r => some (.inr r)).bind (Sum.elim (fun p : LT_slices_Compact_uint64_9 × LM_slices_Compact_uint64_9 => kn p.1 p.2) kr) := by simp only [ltree_slices_Compact_uint64_9, bind_cond, bind_none', bind_some', bind_bind', bind_sum, Sum.elim_inl, Sum.elim_inr]
theorem Le_slices_Compact_uint64_9 (x1 : Int) (x2 : Nat × Nat) (x3 : Int) (x4 : List Int) : L_slices_Compact_uint64_9 (x1, (x2, (x3, ()))) (x4, ()) = ltree_slices_Compact_uint64_9 x1 x2 x3 x4 L_slices_Compact_uint64_9 some := runL_tree (A := LT_slices_Compact_uint64_9) (B := LM_slices_Compact_uint64_9) (R := LO_slices_Compact_uint64_9) (fun a b kn kr => ltree_slices_Compact_uint64_9 a.1 a.2.1 a.2.2.1 b.1 kn kr) (fun a b kn kr => nl_slices_Compact_uint64_9 a.1 a.2.1 a.2.2.1 b.1 kn kr) (x1, (x2, (x3, ()))) (x4, ())
def ltmps_slices_Compact_uint64_4 : SkL := (.cons (.const (.slw 0)) (dz 2 (.cons (.leaf (.int .i64)) (dz 57 .nil))))
def lmem_slices_Compact_uint64_4 : MSk := [(0, .row 22 (.cons (.int .u64) .nil))]
def louts_slices_Compact_uint64_4 : List OutL := [⟨.ret, (.cons (.const (.slw 0)) (.cons (.const .dead) (.cons (.piece 0) (dz 58 .nil)))), [(0, .row 22 (.cons (.int .u64) .nil))]⟩, ⟨(.exit 0), (.cons (.const (.slw 0)) (dz 60 .nil)), [(0, .row 22 (.cons (.int .u64) .nil))]⟩]
abbrev LT_slices_Compact_uint64_4 : Type := (Int × Unit)
abbrev LM_slices_Compact_uint64_4 : Type := (List Int × Unit)
abbrev LO_slices_Compact_uint64_4 : Type := (((Nat × Nat) × Unit) × (List Int × Unit)) ⊕ (Unit × (List Int × Unit))
def ltree_slices_Compact_uint64_4 (L_slices_Compact_uint64_9 : LT_slices_Compact_uint64_9 → LM_slices_Compact_uint64_9 → Option LO_slices_Compact_uint64_9) {α : Type} (x1 : Int) (x2 : List Int) (kn : LT_slices_Compact_uint64_4 → LM_slices_Compact_uint64_4 → Option α) (kr : LO_slices_Compact_uint64_4 → Option α) : Option α :=
  cond (decide (x1 < (↑x2.length : Int)))
  (cond (decide (0 ≤ x1))
   (cond (decide (x1 < (↑x2.length : Int)))
    (cond (decide (0 ≤ IntKind.i64.wrap (x1 - 1)))
     (cond (decide (IntKind.i64.wrap (x1 - 1) < (↑x2.length : Int)))
      (cond (x2.getD (0 + x1.toNat) 0 == x2.getD (0 + (IntKind.i64.wrap (x1 - 1)).toNat) 0)
       (cond (decide (0 ≤ x1))
        (cond (decide (x1 ≤ (↑x2.length : Int)))
         ((L_slices_Compact_uint64_9 (x1, (0 + x1.toNat, x2.length - x1.toNat), 1, ()) (x2, ())).bind fun r1 =>
          cond (decide (0 ≤ r1.fst.fst))
          (cond (decide (r1.fst.fst ≤ (↑r1.snd.fst.length : Int)))
           (cond (decide (0 ≤ r1.fst.fst))
            (cond (decide   (r1.fst.fst ≤     (↑(Go.Proofs.Ytgakbdikappdbaa.S2.fillL (0 + r1.fst.fst.toNat) (r1.snd.fst.length - r1.fst.fst.toNat) 0             r1.snd.fst).length :       Int)))
             (kr (.inl (((0, r1.fst.fst.toNat - 0), ()), (Go.Proofs.Ytgakbdikappdbaa.S2.fillL (0 + r1.fst.fst.toNat) (r1.snd.fst.length - r1.fst.fst.toNat) 0 r1.snd.fst, ()))))
             (none))
            (none))
           (none))
          (none))
         (none))
        (none))
       (kn (IntKind.i64.wrap (x1 + 1), ()) (x2, ())))
      (none))
     (none))
    (none))
   (none))
  (kr (.inr ((), (x2, ()))))
noncomputable def L_slices_Compact_uint64_4 : LT_slices_Compact_uint64_4 → LM_slices_Compact_uint64_4 → Option LO_slices_Compact_uint64_4 := fun x y => runL (fun p => (fun (a : LT_slices_Compact_uint64_4) (b : LM_slices_Compact_uint64_4) => ltree_slices_Compact_uint64_4 L_slices_Compact_uint64_9 a.1 b.1 (fun a' b' => some (.inl (a', b'))) fun r => some (.inr r)) p.1 p.2) (x, y)
theorem nl_slices_Compact_uint64_4 (L_slices_Compact_uint64_9 : LT_slices_Compact_uint64_9 → LM_slices_Compact_uint64_9 → Option LO_slices_Compact_uint64_9) (x1 : Int) (x2 : List Int) {α : Type} (kn : LT_slices_Compact_uint64_4 → LM_slices_Compact_uint64_4 → Option α) (kr : LO_slices_Compact_uint64_4 → Option α) : ltree_slices_Compact_uint64_4 L_slices_Compact_uint64_9 x1 x2 kn kr = (ltree_slices_Compact_uint64_4 L_slices_Compact_uint64_9 x1 x2 (fun a b => some (.inl (a, b))) fun r => some (.inr r)).bind (Sum.elim (fun p : LT_slices_Compact_uint64_4 × LM_slices_Compact_uint64_4 => kn p.1 p.2) kr) := by simp only [ltree_slices_Compact_uint64_4, bind_cond, bind_none', bind_some', bind_bind', bind_sum, Sum.elim_inl, Sum.elim_inr]
theorem Le_slices_Compact_uint64_4 (x1 : Int) (x2 : List Int) : L_slices_Compact_uint64_4 (x1, ()) (x2, ()) = ltree_slices_Compact_uint64_4 L_slices_Compact_uint64_9 x1 x2 L_slices_Compact_uint64_4 some := runL_tree (A := LT_slices_Compact_uint64_4) (B := LM_slices_Compact_uint64_4) (R := LO_slices_Compact_uint64_4) (fun a b kn kr => ltree_slices_Compact_uint64_4 L_slices_Compact_uint64_9 a.1 b.1 kn kr) (fun a b kn kr => nl_slices_Compact_uint64_4 L_slices_Compact_uint64_9 a.1 b.1 kn kr) (x1, ()) (x2, ())
def tree_slices_Compact_uint64 (L_slices_Compact_uint64_4 : LT_slices_Compact_uint64_4 → LM_slices_Compact_uint64_4 → Option LO_slices_Compact_uint64_4) {α : Type} (x1 : List Int) (K : O_slices_Compact_uint64 → Option α) : Option α :=
  cond (decide ((↑x1.length : Int) < 2))
  (K ((), ((), (x1, ()))))
  ((L_slices_Compact_uint64_4 (1, ()) (x1, ())).bind fun r1 =>
   Sum.elim (fun u2 =>
    K ((), ((), (List.take u2.fst.fst.snd (List.drop u2.fst.fst.fst u2.snd.fst), ()))))
   (fun u2 =>
    K ((), ((), (u2.snd.fst, ())))) (r1))
noncomputable def F_slices_Compact_uint64 : A_slices_Compact_uint64 → M_slices_Compact_uint64 → Option O_slices_Compact_uint64 := fun a b => tree_slices_Compact_uint64 L_slices_Compact_uint64_4 b.1 some
theorem n_slices_Compact_uint64 (L_slices_Compact_uint64_4 : LT_slices_Compact_uint64_4 → LM_slices_Compact_uint64_4 → Option LO_slices_Compact_uint64_4) (x1 : List Int) {α : Type} (K : O_slices_Compact_uint64 → Option α) : tree_slices_Compact_uint64 L_slices_Compact_uint64_4 x1 K = (tree_slices_Compact_uint64 L_slices_Compact_uint64_4 x1 some).bind K := by simp only [tree_slices_Compact_uint64, bind_cond, bind_none', bind_some', bind_bind', bind_sum]
theorem Fe_slices_Compact_uint64 (x1 : List Int) : F_slices_Compact_uint64 () (x1, ()) = tree_slices_Compact_uint64 L_slices_Compact_uint64_4 x1 some := rfl
def args_raft_Start : SkL := (.cons (.leaf (.int .u64)) (.cons (.leaf (.slc 22 (.cons (.int .u64) .nil))) .nil))
def mem_raft_Start : MSk := []
def outs_raft_Start : List OutC := [⟨(.agg (.cons (.leaf (.int .u64)) (.cons (.leaf (.slc 22 (.cons (.int .u64) .nil))) (.cons (.leaf (.int .u64)) (.cons (.leaf (.int .u64)) (.cons (.leaf (.int .u64)) (.cons (.leaf (.int .u64)) (.cons (.leaf (.slc 52 (.cons (.int .u64) (.cons (.int .i64) (.cons .str .nil))))) (.cons (.leaf .str) (.cons (.leaf (.int .i64)) (.cons (.leaf (.int .u64)) (.cons (.leaf (.int .u64)) (.cons (.leaf (.slc 22 (.cons (.int .u64) .nil))) (.cons (.leaf (.slc 58 (.cons (.int .u64) (.cons (.int .u64) (.cons (.int .u64) .nil))))) (.cons (.leaf (.int .i64)) .nil))))))))))))))), []⟩]
abbrev A_raft_Start : Type := (Int × List Int × Unit)
abbrev M_raft_Start : Type := Unit
abbrev O_raft_Start : Type := (Int × List Int × Int × Int × Int × Int × (List (Int × Int × ByteArray)) × ByteArray × Int × Int × Int × List Int × (List (Int × Int × Int)) × Int × Unit) × Unit
def tree_raft_Start (F_slices_Values_uint64 : A_slices_Values_uint64 → M_slices_Values_uint64 → Option O_slices_Values_uint64) (F_slices_Sorted_uint64 : A_slices_Sorted_uint64 → M_slices_Sorted_uint64 → Option O_slices_Sorted_uint64) (F_slices_Compact_uint64 : A_slices_Compact_uint64 → M_slices_Compact_uint64 → Option O_slices_Compact_uint64) {α : Type} (x1 : Int) (x2 : List Int) (K : O_raft_Start → Option α) : Option α :=
  (F_slices_Values_uint64 (x2, ()) ()).bind fun r1 =>
  (F_slices_Sorted_uint64 ((), ()) ((r1.snd.fst.fst, ()), ())).bind fun r2 =>
  (F_slices_Compact_uint64 () (r2.snd.snd.fst, ())).bind fun r3 =>
  K ((x1, (r3.snd.snd.fst, (0, (0, (0, (0, ([], (ByteArray.empty, (0, (0, (0, ([], ([], (0, ())))))))))))))), ())
noncomputable def F_raft_Start : A_raft_Start → M_raft_Start → Option O_raft_Start := fun a b => tree_raft_Start F_slices_Values_uint64 F_slices_Sorted_uint64 F_slices_Compact_uint64 a.1 a.2.1 some
theorem n_raft_Start (F_slices_Values_uint64 : A_slices_Values_uint64 → M_slices_Values_uint64 → Option O_slices_Values_uint64) (F_slices_Sorted_uint64 : A_slices_Sorted_uint64 → M_slices_Sorted_uint64 → Option O_slices_Sorted_uint64) (F_slices_Compact_uint64 : A_slices_Compact_uint64 → M_slices_Compact_uint64 → Option O_slices_Compact_uint64) (x1 : Int) (x2 : List Int) {α : Type} (K : O_raft_Start → Option α) : tree_raft_Start F_slices_Values_uint64 F_slices_Sorted_uint64 F_slices_Compact_uint64 x1 x2 K = (tree_raft_Start F_slices_Values_uint64 F_slices_Sorted_uint64 F_slices_Compact_uint64 x1 x2 some).bind K := by simp only [tree_raft_Start, bind_cond, bind_none', bind_some', bind_bind', bind_sum]
theorem Fe_raft_Start (x1 : Int) (x2 : List Int) : F_raft_Start (x1, (x2, ())) () = tree_raft_Start F_slices_Values_uint64 F_slices_Sorted_uint64 F_slices_Compact_uint64 x1 x2 some := rfl
def args_ref16_Once : SkL := (.cons (.leaf (.slc 22 (.cons (.int .u64) .nil))) .nil)
def mem_ref16_Once : MSk := []
def outs_ref16_Once : List OutC := [⟨(.leaf (.slc 22 (.cons (.int .u64) .nil))), []⟩]
abbrev A_ref16_Once : Type := (List Int × Unit)
abbrev M_ref16_Once : Type := Unit
abbrev O_ref16_Once : Type := List Int × Unit
def ltmps_ref16_Once_5 : SkL := (.cons (.leaf (.slc 22 (.cons (.int .u64) .nil))) (dz 2 (.cons (.const (.slw 503)) (.cons (.leaf .bool) (.cons (.leaf (.int .u64)) (.cons (.leaf (.int .i64)) (dz 46 .nil)))))))
def lmem_ref16_Once_5 : MSk := [(503, .row 22 (.cons (.int .u64) .nil))]
def louts_ref16_Once_5 : List OutL := [⟨(.exit 2), (.cons (.leaf (.slc 22 (.cons (.int .u64) .nil))) (dz 2 (.cons (.const (.slw 503)) (.cons (.leaf .bool) (.cons (.leaf (.int .u64)) (dz 47 .nil)))))), [(503, .row 22 (.cons (.int .u64) .nil))]⟩]
abbrev LT_ref16_Once_5 : Type := (List Int × Bool × Int × Int × Unit)
abbrev LM_ref16_Once_5 : Type := (List Int × Unit)
abbrev LO_ref16_Once_5 : Type := (List Int × Bool × Int × Unit) × (List Int × Unit)
def ltree_ref16_Once_5 {α : Type} (x1 : List Int) (x2 : Bool) (x3 : Int) (x4 : Int) (x5 : List Int) (kn : LT_ref16_Once_5 → LM_ref16_Once_5 → Option α) (kr : LO_ref16_Once_5 → Option α) : Option α :=
  cond (decide (x4 < (↑x1.length : Int)))
  (cond ((↑x5.length : Int) == 0)
   (cond (!x2)
    (cond (decide (0 ≤ x4))
     (cond (decide (x4 < (↑x1.length : Int)))
      (kn (x1, (true, (x1.getD x4.toNat 0, (IntKind.i64.wrap (x4 + 1), ())))) (x5, ()))
      (none))
     (none))
    (cond (decide (0 ≤ x4))
     (cond (decide (x4 < (↑x1.length : Int)))
      (cond (decide (x1.getD x4.toNat 0 < x3))
       (cond (decide (0 ≤ x4))
        (cond (decide (x4 < (↑x1.length : Int)))
         (kn (x1, (true, (x1.getD x4.toNat 0, (IntKind.i64.wrap (x4 + 1), ())))) (x5, ()))
         (none))
        (none))
       (kn (x1, (x2, (x3, (IntKind.i64.wrap (x4 + 1), ())))) (x5, ())))
      (none))
     (none)))
   (cond (decide (0 ≤ x4))
    (cond (decide (x4 < (↑x1.length : Int)))
     (cond (decide (0 ≤ IntKind.i64.wrap ((↑x5.length : Int) - 1)))
      (cond (decide (IntKind.i64.wrap ((↑x5.length : Int) - 1) < (↑x5.length : Int)))
       (cond (decide (x1.getD x4.toNat 0 > x5.getD (0 + (IntKind.i64.wrap ((↑x5.length : Int) - 1)).toNat) 0))
        (cond (!x2)
         (cond (decide (0 ≤ x4))
          (cond (decide (x4 < (↑x1.length : Int)))
           (kn (x1, (true, (x1.getD x4.toNat 0, (IntKind.i64.wrap (x4 + 1), ())))) (x5, ()))
           (none))
          (none))
         (cond (decide (0 ≤ x4))
          (cond (decide (x4 < (↑x1.length : Int)))
           (cond (decide (x1.getD x4.toNat 0 < x3))
            (cond (decide (0 ≤ x4))
             (cond (decide (x4 < (↑x1.length : Int)))
              (kn (x1, (true, (x1.getD x4.toNat 0, (IntKind.i64.wrap (x4 + 1), ())))) (x5, ()))
              (none))
             (none))
            (kn (x1, (x2, (x3, (IntKind.i64.wrap (x4 + 1), ())))) (x5, ())))
           (none))
          (none)))
        (kn (x1, (x2, (x3, (IntKind.i64.wrap (x4 + 1), ())))) (x5, ())))
       (none))
      (none))
     (none))
    (none)))
  (kr ((x1, (x2, (x3, ()))), (x5, ())))
noncomputable def L_ref16_Once_5 : LT_ref16_Once_5 → LM_ref16_Once_5 → Option LO_ref16_Once_5 := fun x y => runL (fun p => (fun (a : LT_ref16_Once_5) (b : LM_ref16_Once_5) => ltree_ref16_Once_5 a.1 a.2.1 a.2.2.1 a.2.2.2.1 b.1 (fun a' b' => some (.inl (a', b'))) fun r => some (.inr r)) p.1 p.2) (x, y)
theorem nl_ref16_Once_5 (x1 : List Int) (x2 : Bool) (x3 : Int) (x4 : Int) (x5 : List Int) {α : Type} (kn : LT_ref16_Once_5 → LM_ref16_Once_5 → Option α) (kr : LO_ref16_Once_5 → Option α) : ltree_ref16_Once_5 x1 x2 x3 x4 x5 kn kr = (ltree_ref16_Once_5 x1 x2 x3 x4 x5 (fun a b => some (.inl (a, b))) fun r => some (.inr r)).bind (Sum.elim (fun p : LT_ref16_Once_5 × LM_ref16_Once_5 => kn p.1 p.2) kr) := by simp only [ltree_ref16_Once_5, bind_cond, bind_none', bind_some', bind_bind', bind_sum, Sum.elim_inl, Sum.elim_inr]
theorem Le_ref16_Once_5 (x1 : List Int) (x2 : Bool) (x3 : Int) (x4 : Int) (x5 : List Int) : L_ref16_Once_5 (x1, (x2, (x3, (x4, ())))) (x5, ()) = ltree_ref16_Once_5 x1 x2 x3 x4 x5 L_ref16_Once_5 some := runL_tree (A := LT_ref16_Once_5) (B := LM_ref16_Once_5) (R := LO_ref16_Once_5) (fun a b kn kr => ltree_ref16_Once_5 a.1 a.2.1 a.2.2.1 a.2.2.2.1 b.1 kn kr) (fun a b kn kr => nl_ref16_Once_5 a.1 a.2.1 a.2.2.1 a.2.2.2.1 b.1 kn kr) (x1, (x2, (x3, (x4, ())))) (x5, ())
def ltmps_ref16_Once_2 : SkL := (.cons (.leaf (.slc 22 (.cons (.int .u64) .nil))) (dz 2 (.cons (.const (.slw 503)) (dz 49 .nil))))
def lmem_ref16_Once_2 : MSk := [(503, .row 22 (.cons (.int .u64) .nil))]
def louts_ref16_Once_2 : List OutL := [⟨.ret, (dz 2 (.cons (.const (.slw 503)) (dz 50 .nil))), [(503, .row 22 (.cons (.int .u64) .nil))]⟩]
abbrev LT_ref16_Once_2 : Type := (List Int × Unit)
abbrev LM_ref16_Once_2 : Type := (List Int × Unit)
abbrev LO_ref16_Once_2 : Type := Unit × (List Int × Unit)
def ltree_ref16_Once_2 (L_ref16_Once_5 : LT_ref16_Once_5 → LM_ref16_Once_5 → Option LO_ref16_Once_5) {α : Type} (x1 : List Int) (x2 : List Int) (kn : LT_ref16_Once_2 → LM_ref16_Once_2 → Option α) (kr : LO_ref16_Once_2 → Option α) : Option α :=
  (L_ref16_Once_5 (x1, Bool.false, 0, 0, ()) (x2, ())).bind fun r1 =>
  cond (!r1.fst.snd.fst)
  (kr ((), (r1.snd.fst, ())))
  (cond (decide ((r1.snd.fst.length + 1) * 8 ≤ 140737488355328))
   (kn (r1.fst.fst, ()) (r1.snd.fst ++ ([] ++ [r1.fst.snd.snd.fst]), ()))
   (none))
noncomputable def L_ref16_Once_2 : LT_ref16_Once_2 → LM_ref16_Once_2 → Option LO_ref16_Once_2 := fun x y => runL (fun p => (fun (a : LT_ref16_Once_2) (b : LM_ref16_Once_2) => ltree_ref16_Once_2 L_ref16_Once_5 a.1 b.1 (fun a' b' => some (.inl (a', b'))) fun r => some (.inr r)) p.1 p.2) (x, y)
theorem nl_ref16_Once_2 (L_ref16_Once_5 : LT_ref16_Once_5 → LM_ref16_Once_5 → Option LO_ref16_Once_5) (x1 : List Int) (x2 : List Int) {α : Type} (kn : LT_ref16_Once_2 → LM_ref16_Once_2 → Option α) (kr : LO_ref16_Once_2 → Option α) : ltree_ref16_Once_2 L_ref16_Once_5 x1 x2 kn kr = (ltree_ref16_Once_2 L_ref16_Once_5 x1 x2 (fun a b => some (.inl (a, b))) fun r => some (.inr r)).bind (Sum.elim (fun p : LT_ref16_Once_2 × LM_ref16_Once_2 => kn p.1 p.2) kr) := by simp only [ltree_ref16_Once_2, bind_cond, bind_none', bind_some', bind_bind', bind_sum, Sum.elim_inl, Sum.elim_inr]
theorem Le_ref16_Once_2 (x1 : List Int) (x2 : List Int) : L_ref16_Once_2 (x1, ()) (x2, ()) = ltree_ref16_Once_2 L_ref16_Once_5 x1 x2 L_ref16_Once_2 some := runL_tree (A := LT_ref16_Once_2) (B := LM_ref16_Once_2) (R := LO_ref16_Once_2) (fun a b kn kr => ltree_ref16_Once_2 L_ref16_Once_5 a.1 b.1 kn kr) (fun a b kn kr => nl_ref16_Once_2 L_ref16_Once_5 a.1 b.1 kn kr) (x1, ()) (x2, ())
def tree_ref16_Once (L_ref16_Once_2 : LT_ref16_Once_2 → LM_ref16_Once_2 → Option LO_ref16_Once_2) {α : Type} (x1 : List Int) (K : O_ref16_Once → Option α) : Option α :=
  (L_ref16_Once_2 (x1, ()) ([], ())).bind fun r1 =>
  K (r1.snd.fst, ())
noncomputable def F_ref16_Once : A_ref16_Once → M_ref16_Once → Option O_ref16_Once := fun a b => tree_ref16_Once L_ref16_Once_2 a.1 some
theorem n_ref16_Once (L_ref16_Once_2 : LT_ref16_Once_2 → LM_ref16_Once_2 → Option LO_ref16_Once_2) (x1 : List Int) {α : Type} (K : O_ref16_Once → Option α) : tree_ref16_Once L_ref16_Once_2 x1 K = (tree_ref16_Once L_ref16_Once_2 x1 some).bind K := by simp only [tree_ref16_Once, bind_cond, bind_none', bind_some', bind_bind', bind_sum]
theorem Fe_ref16_Once (x1 : List Int) : F_ref16_Once (x1, ()) () = tree_ref16_Once L_ref16_Once_2 x1 some := rfl
def args_ref18_Start : SkL := (.cons (.leaf (.int .u64)) (.cons (.leaf (.slc 22 (.cons (.int .u64) .nil))) .nil))
def mem_ref18_Start : MSk := []
def outs_ref18_Start : List OutC := [⟨(.agg (.cons (.leaf (.int .u64)) (.cons (.leaf (.slc 22 (.cons (.int .u64) .nil))) (.cons (.leaf (.int .u64)) (.cons (.leaf (.int .u64)) (.cons (.leaf (.int .u64)) (.cons (.leaf (.int .u64)) (.cons (.leaf (.slc 52 (.cons (.int .u64) (.cons (.int .i64) (.cons .str .nil))))) (.cons (.leaf .str) (.cons (.leaf (.int .i64)) (.cons (.leaf (.int .u64)) (.cons (.leaf (.int .u64)) (.cons (.leaf (.slc 22 (.cons (.int .u64) .nil))) (.cons (.leaf (.slc 58 (.cons (.int .u64) (.cons (.int .u64) (.cons (.int .u64) .nil))))) (.cons (.leaf (.int .i64)) .nil))))))))))))))), []⟩]
abbrev A_ref18_Start : Type := (Int × List Int × Unit)
abbrev M_ref18_Start : Type := Unit
abbrev O_ref18_Start : Type := (Int × List Int × Int × Int × Int × Int × (List (Int × Int × ByteArray)) × ByteArray × Int × Int × Int × List Int × (List (Int × Int × Int)) × Int × Unit) × Unit
def tree_ref18_Start (F_ref16_Once : A_ref16_Once → M_ref16_Once → Option O_ref16_Once) {α : Type} (x1 : Int) (x2 : List Int) (K : O_ref18_Start → Option α) : Option α :=
  (F_ref16_Once (x2, ()) ()).bind fun r1 =>
  K ((x1, (r1.fst, (0, (0, (0, (0, ([], (ByteArray.empty, (0, (0, (0, ([], ([], (0, ())))))))))))))), ())
noncomputable def F_ref18_Start : A_ref18_Start → M_ref18_Start → Option O_ref18_Start := fun a b => tree_ref18_Start F_ref16_Once a.1 a.2.1 some
theorem n_ref18_Start (F_ref16_Once : A_ref16_Once → M_ref16_Once → Option O_ref16_Once) (x1 : Int) (x2 : List Int) {α : Type} (K : O_ref18_Start → Option α) : tree_ref18_Start F_ref16_Once x1 x2 K = (tree_ref18_Start F_ref16_Once x1 x2 some).bind K := by simp only [tree_ref18_Start, bind_cond, bind_none', bind_some', bind_bind', bind_sum]
theorem Fe_ref18_Start (x1 : Int) (x2 : List Int) : F_ref18_Start (x1, (x2, ())) () = tree_ref18_Start F_ref16_Once x1 x2 some := rfl
end Go.Proofs.Ytgakbdikappdbaa.S2
