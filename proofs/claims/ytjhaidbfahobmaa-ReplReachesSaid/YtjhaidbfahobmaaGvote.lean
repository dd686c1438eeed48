/- Plain forms of the program's functions, by program. -/
import Derived.Test.YtjhaidbfahobmaaGrlog
import Derived.Test.YtjhaidbfahobmaaGsort
set_option maxRecDepth 100000
set_option maxHeartbeats 0
set_option linter.unusedVariables false
set_option linter.unusedSimpArgs false
namespace Go.Proofs.Ytjhaidbfahobmaa.S2
open Go
def args_s_AppendSeq_u : SkL := (.cons (.const .nils) (.cons (.fn 64 (.cons (.const (.ptr 0 0 0)) .nil)) .nil))
def mem_s_AppendSeq_u : MSk := [(0, .cells (.cons (.leaf (.slc 22 (.cons (.int .u64) .nil))) .nil))]
def outs_s_AppendSeq_u : List OutC := [⟨(.const (.slw 1)), [(1, .row 22 (.cons (.int .u64) .nil))]⟩]
abbrev A_s_AppendSeq_u : Type := (Unit × Unit)
abbrev M_s_AppendSeq_u : Type := ((List Int × Unit) × Unit)
abbrev O_s_AppendSeq_u : Type := Unit × (List Int × Unit)
def F_s_AppendSeq_u : A_s_AppendSeq_u → M_s_AppendSeq_u → Option O_s_AppendSeq_u := fun a b => cond (decide (b.1.1.length * 8 ≤ 140737488351232)) (some ((), (b.1.1, ()))) none

/-! slices.Collect<uint64> -/
def args_s_Collect_u : SkL := (.cons (.fn 64 (.cons (.const (.ptr 0 0 0)) .nil)) .nil)
def mem_s_Collect_u : MSk := [(0, .cells (.cons (.leaf (.slc 22 (.cons (.int .u64) .nil))) .nil))]
def outs_s_Collect_u : List OutC := [⟨(.const (.slw 1)), [(0, .cells (.cons (.leaf (.slc 22 (.cons (.int .u64) .nil))) .nil)), (1, .row 22 (.cons (.int .u64) .nil))]⟩]
abbrev A_s_Collect_u : Type := (Unit × Unit)
abbrev M_s_Collect_u : Type := ((List Int × Unit) × Unit)
abbrev O_s_Collect_u : Type := Unit × ((List Int × Unit) × List Int × Unit)
def tree_s_Collect_u (F_s_AppendSeq_u : A_s_AppendSeq_u → M_s_AppendSeq_u → Option O_s_AppendSeq_u) {α : Type} (x1 : List Int) (K : O_s_Collect_u → Option α) : Option α :=
 (F_s_AppendSeq_u ((), ()) ((x1, ()), ())).bind fun r1 =>
 K ((), ((x1, ()), (r1.snd.fst, ())))
noncomputable def F_s_Collect_u : A_s_Collect_u → M_s_Collect_u → Option O_s_Collect_u := fun a b => tree_s_Collect_u F_s_AppendSeq_u b.1.1 some
theorem n_s_Collect_u (F_s_AppendSeq_u : A_s_AppendSeq_u → M_s_AppendSeq_u → Option O_s_AppendSeq_u) (x1 : List Int) {α : Type} (K : O_s_Collect_u → Option α) : tree_s_Collect_u F_s_AppendSeq_u x1 K = (tree_s_Collect_u F_s_AppendSeq_u x1 some).bind K := by simp only [tree_s_Collect_u, bind_cond, bind_none', bind_some', bind_bind', bind_sum]
theorem Fe_s_Collect_u (x1 : List Int) : F_s_Collect_u ((), ()) ((x1, ()), ()) = tree_s_Collect_u F_s_AppendSeq_u x1 some := rfl

/-! slices.Values<<>uint64,uint64> -/
def args_s_Values_u : SkL := (.cons (.leaf (.slc 22 (.cons (.int .u64) .nil))) .nil)
def mem_s_Values_u : MSk := []
def outs_s_Values_u : List OutC := [⟨(.fn 64 (.cons (.const (.ptr 0 0 0)) .nil)), [(0, .cells (.cons (.leaf (.slc 22 (.cons (.int .u64) .nil))) .nil))]⟩]
abbrev A_s_Values_u : Type := (List Int × Unit)
abbrev M_s_Values_u : Type := Unit
abbrev O_s_Values_u : Type := Unit × ((List Int × Unit) × Unit)
def tree_s_Values_u {α : Type} (x1 : List Int) (K : O_s_Values_u → Option α) : Option α :=
 K ((), ((x1, ()), ()))
noncomputable def F_s_Values_u : A_s_Values_u → M_s_Values_u → Option O_s_Values_u := fun a b => tree_s_Values_u a.1 some
theorem n_s_Values_u (x1 : List Int) {α : Type} (K : O_s_Values_u → Option α) : tree_s_Values_u x1 K = (tree_s_Values_u x1 some).bind K := by simp only [tree_s_Values_u, bind_cond, bind_none', bind_some', bind_bind', bind_sum]
theorem Fe_s_Values_u (x1 : List Int) : F_s_Values_u (x1, ()) () = tree_s_Values_u x1 some := rfl

/-! slices.Sorted<uint64> -/
def args_s_Sorted_u : SkL := (.cons (.fn 64 (.cons (.const (.ptr 0 0 0)) .nil)) .nil)
def mem_s_Sorted_u : MSk := [(0, .cells (.cons (.leaf (.slc 22 (.cons (.int .u64) .nil))) .nil))]
def outs_s_Sorted_u : List OutC := [⟨(.const (.slw 1)), [(0, .cells (.cons (.leaf (.slc 22 (.cons (.int .u64) .nil))) .nil)), (1, .row 22 (.cons (.int .u64) .nil))]⟩]
abbrev A_s_Sorted_u : Type := (Unit × Unit)
abbrev M_s_Sorted_u : Type := ((List Int × Unit) × Unit)
abbrev O_s_Sorted_u : Type := Unit × ((List Int × Unit) × List Int × Unit)
def tree_s_Sorted_u (F_s_Collect_u : A_s_Collect_u → M_s_Collect_u → Option O_s_Collect_u) (F_s_Sort_u : A_s_Sort_u → M_s_Sort_u → Option O_s_Sort_u) {α : Type} (x1 : List Int) (K : O_s_Sorted_u → Option α) : Option α :=
 (F_s_Collect_u ((), ()) ((x1, ()), ())).bind fun r1 =>
 (F_s_Sort_u () (r1.snd.snd.fst, ())).bind fun r2 =>
 K ((), ((r1.snd.fst.fst, ()), (r2.snd.fst, ())))
noncomputable def F_s_Sorted_u : A_s_Sorted_u → M_s_Sorted_u → Option O_s_Sorted_u := fun a b => tree_s_Sorted_u F_s_Collect_u F_s_Sort_u b.1.1 some
theorem n_s_Sorted_u (F_s_Collect_u : A_s_Collect_u → M_s_Collect_u → Option O_s_Collect_u) (F_s_Sort_u : A_s_Sort_u → M_s_Sort_u → Option O_s_Sort_u) (x1 : List Int) {α : Type} (K : O_s_Sorted_u → Option α) : tree_s_Sorted_u F_s_Collect_u F_s_Sort_u x1 K = (tree_s_Sorted_u F_s_Collect_u F_s_Sort_u x1 some).bind K := by simp only [tree_s_Sorted_u, bind_cond, bind_none', bind_some', bind_bind', bind_sum]
theorem Fe_s_Sorted_u (x1 : List Int) : F_s_Sorted_u ((), ()) ((x1, ()), ()) = tree_s_Sorted_u F_s_Collect_u F_s_Sort_u x1 some := rfl

/-! slices.Compact<<>uint64,uint64> -/
def args_s_Compact_u : SkL := (.cons (.const (.slw 0)) .nil)
def mem_s_Compact_u : MSk := [(0, .row 22 (.cons (.int .u64) .nil))]
def outs_s_Compact_u : List OutC := [⟨(.const (.slw 1)), [(0, .gone), (1, .row 22 (.cons (.int .u64) .nil))]⟩]
abbrev A_s_Compact_u : Type := Unit
abbrev M_s_Compact_u : Type := (List Int × Unit)
abbrev O_s_Compact_u : Type := Unit × (Unit × List Int × Unit)
def ltmps_s_Compact_u_9 : SkL := (.cons (.const (.slw 0)) (dz 2 (.cons (.leaf (.int .i64)) (.cons (.piece 0) (.cons (.leaf (.int .i64)) (dz 55 .nil))))))
def lmem_s_Compact_u_9 : MSk := [(0, .row 22 (.cons (.int .u64) .nil))]
def louts_s_Compact_u_9 : List OutL := [⟨(.exit 2), (.cons (.const (.slw 0)) (dz 2 (.cons (.leaf (.int .i64)) (dz 57 .nil)))), [(0, .row 22 (.cons (.int .u64) .nil))]⟩]
abbrev LT_s_Compact_u_9 : Type := (Int × (Nat × Nat) × Int × Unit)
abbrev LM_s_Compact_u_9 : Type := (List Int × Unit)
abbrev LO_s_Compact_u_9 : Type := (Int × Unit) × (List Int × Unit)
def ltree_s_Compact_u_9 {α : Type} (x1 : Int) (x2 : Nat × Nat) (x3 : Int) (x4 : List Int) (kn : LT_s_Compact_u_9 → LM_s_Compact_u_9 → Option α) (kr : LO_s_Compact_u_9 → Option α) : Option α :=
 cond (decide (x3 < (↑x2.snd : Int)))
 (cond (decide (0 ≤ x3))
 (cond (decide (x3 < (↑x2.snd : Int)))
 (cond (decide (0 ≤ IntKind.i64.wrap (x3 - 1)))
 (cond (decide (IntKind.i64.wrap (x3 - 1) < (↑x2.snd : Int)))
 (cond (x4.getD (x2.fst + x3.toNat) 0 != x4.getD (x2.fst + (IntKind.i64.wrap (x3 - 1)).toNat) 0)
 (cond (decide (0 ≤ x3))
 (cond (decide (x3 < (↑x2.snd : Int)))
 (cond (decide (0 ≤ x1))
 (cond (decide (x1 < (↑x4.length : Int)))
 (kn (IntKind.i64.wrap (x1 + 1), ((x2.fst, x2.snd), (IntKind.i64.wrap (x3 + 1), ()))) (x4.set (0 + x1.toNat) (x4.getD (x2.fst + x3.toNat) 0), ()))
 (none))
 (none))
 (none))
 (none))
 (kn (x1, ((x2.fst, x2.snd), (IntKind.i64.wrap (x3 + 1), ()))) (x4, ())))
 (none))
 (none))
 (none))
 (none))
 (kr ((x1, ()), (x4, ())))
noncomputable def L_s_Compact_u_9 : LT_s_Compact_u_9 → LM_s_Compact_u_9 → Option LO_s_Compact_u_9 := fun x y => runL (fun p => (fun (a : LT_s_Compact_u_9) (b : LM_s_Compact_u_9) => ltree_s_Compact_u_9 a.1 a.2.1 a.2.2.1 b.1 (fun a' b' => some (.inl (a', b'))) fun r => some (.inr r)) p.1 p.2) (x, y)
theorem nl_s_Compact_u_9 (x1 : Int) (x2 : Nat × Nat) (x3 : Int) (x4 : List Int) {α : Type} (kn : LT_s_Compact_u_9 → LM_s_Compact_u_9 → Option α) (kr : LO_s_Compact_u_9 → Option α) : ltree_s_Compact_u_9 x1 x2 x3 x4 kn kr = (ltree_s_Compact_u_9 x1 x2 x3 x4 (fun a b => some (.inl (a, b))) fun r => some (.inr r)).bind (Sum.elim (fun p : LT_s_Compact_u_9 × LM_s_Compact_u_9 => kn p.1 p.2) kr) := by simp only [ltree_s_Compact_u_9, bind_cond, bind_none', bind_some', bind_bind', bind_sum, Sum.elim_inl, Sum.elim_inr]
theorem Le_s_Compact_u_9 (x1 : Int) (x2 : Nat × Nat) (x3 : Int) (x4 : List Int) : L_s_Compact_u_9 (x1, (x2, (x3, ()))) (x4, ()) = ltree_s_Compact_u_9 x1 x2 x3 x4 L_s_Compact_u_9 some := runL_tree (A := LT_s_Compact_u_9) (B := LM_s_Compact_u_9) (R := LO_s_Compact_u_9) (fun a b kn kr => ltree_s_Compact_u_9 a.1 a.2.1 a.2.2.1 b.1 kn kr) (fun a b kn kr => nl_s_Compact_u_9 a.1 a.2.1 a.2.2.1 b.1 kn kr) (x1, (x2, (x3, ()))) (x4, ())
def ltmps_s_Compact_u_4 : SkL := (.cons (.const (.slw 0)) (dz 2 (.cons (.leaf (.int .i64)) (dz 57 .nil))))
def lmem_s_Compact_u_4 : MSk := [(0, .row 22 (.cons (.int .u64) .nil))]
def louts_s_Compact_u_4 : List OutL := [⟨.ret, (.cons (.const (.slw 0)) (.cons (.const .dead) (.cons (.piece 0) (dz 58 .nil)))), [(0, .row 22 (.cons (.int .u64) .nil))]⟩, ⟨(.exit 0), (.cons (.const (.slw 0)) (dz 60 .nil)), [(0, .row 22 (.cons (.int .u64) .nil))]⟩]
abbrev LT_s_Compact_u_4 : Type := (Int × Unit)
abbrev LM_s_Compact_u_4 : Type := (List Int × Unit)
abbrev LO_s_Compact_u_4 : Type := (((Nat × Nat) × Unit) × (List Int × Unit)) ⊕ (Unit × (List Int × Unit))
def ltree_s_Compact_u_4 (L_s_Compact_u_9 : LT_s_Compact_u_9 → LM_s_Compact_u_9 → Option LO_s_Compact_u_9) {α : Type} (x1 : Int) (x2 : List Int) (kn : LT_s_Compact_u_4 → LM_s_Compact_u_4 → Option α) (kr : LO_s_Compact_u_4 → Option α) : Option α :=
 cond (decide (x1 < (↑x2.length : Int)))
 (cond (decide (0 ≤ x1))
 (cond (decide (x1 < (↑x2.length : Int)))
 (cond (decide (0 ≤ IntKind.i64.wrap (x1 - 1)))
 (cond (decide (IntKind.i64.wrap (x1 - 1) < (↑x2.length : Int)))
 (cond (x2.getD (0 + x1.toNat) 0 == x2.getD (0 + (IntKind.i64.wrap (x1 - 1)).toNat) 0)
 (cond (decide (0 ≤ x1))
 (cond (decide (x1 ≤ (↑x2.length : Int)))
 ((L_s_Compact_u_9 (x1, (0 + x1.toNat, x2.length - x1.toNat), 1, ()) (x2, ())).bind fun r1 =>
 cond (decide (0 ≤ r1.fst.fst))
 (cond (decide (r1.fst.fst ≤ (↑r1.snd.fst.length : Int)))
 (cond (decide (0 ≤ r1.fst.fst))
 (cond (decide (r1.fst.fst ≤ (↑(fillL (0 + r1.fst.fst.toNat) (r1.snd.fst.length - r1.fst.fst.toNat) 0 r1.snd.fst).length : Int)))
 (kr (.inl (((0, r1.fst.fst.toNat - 0), ()), (fillL (0 + r1.fst.fst.toNat) (r1.snd.fst.length - r1.fst.fst.toNat) 0 r1.snd.fst, ()))))
 (none))
 (none))
 (none))
 (none))
 (none))
 (none))
 (kn (IntKind.i64.wrap (x1 + 1), ()) (x2, ())))
 (none))
 (none))
 (none))
 (none))
 (kr (.inr ((), (x2, ()))))
noncomputable def L_s_Compact_u_4 : LT_s_Compact_u_4 → LM_s_Compact_u_4 → Option LO_s_Compact_u_4 := fun x y => runL (fun p => (fun (a : LT_s_Compact_u_4) (b : LM_s_Compact_u_4) => ltree_s_Compact_u_4 L_s_Compact_u_9 a.1 b.1 (fun a' b' => some (.inl (a', b'))) fun r => some (.inr r)) p.1 p.2) (x, y)
theorem nl_s_Compact_u_4 (L_s_Compact_u_9 : LT_s_Compact_u_9 → LM_s_Compact_u_9 → Option LO_s_Compact_u_9) (x1 : Int) (x2 : List Int) {α : Type} (kn : LT_s_Compact_u_4 → LM_s_Compact_u_4 → Option α) (kr : LO_s_Compact_u_4 → Option α) : ltree_s_Compact_u_4 L_s_Compact_u_9 x1 x2 kn kr = (ltree_s_Compact_u_4 L_s_Compact_u_9 x1 x2 (fun a b => some (.inl (a, b))) fun r => some (.inr r)).bind (Sum.elim (fun p : LT_s_Compact_u_4 × LM_s_Compact_u_4 => kn p.1 p.2) kr) := by simp only [ltree_s_Compact_u_4, bind_cond, bind_none', bind_some', bind_bind', bind_sum, Sum.elim_inl, Sum.elim_inr]
theorem Le_s_Compact_u_4 (x1 : Int) (x2 : List Int) : L_s_Compact_u_4 (x1, ()) (x2, ()) = ltree_s_Compact_u_4 L_s_Compact_u_9 x1 x2 L_s_Compact_u_4 some := runL_tree (A := LT_s_Compact_u_4) (B := LM_s_Compact_u_4) (R := LO_s_Compact_u_4) (fun a b kn kr => ltree_s_Compact_u_4 L_s_Compact_u_9 a.1 b.1 kn kr) (fun a b kn kr => nl_s_Compact_u_4 L_s_Compact_u_9 a.1 b.1 kn kr) (x1, ()) (x2, ())
def tree_s_Compact_u (L_s_Compact_u_4 : LT_s_Compact_u_4 → LM_s_Compact_u_4 → Option LO_s_Compact_u_4) {α : Type} (x1 : List Int) (K : O_s_Compact_u → Option α) : Option α :=
 cond (decide ((↑x1.length : Int) < 2))
 (K ((), ((), (x1, ()))))
 ((L_s_Compact_u_4 (1, ()) (x1, ())).bind fun r1 =>
 Sum.elim (fun u2 =>
 K ((), ((), (List.take u2.fst.fst.snd (List.drop u2.fst.fst.fst u2.snd.fst), ()))))
 (fun u2 =>
 K ((), ((), (u2.snd.fst, ())))) (r1))
noncomputable def F_s_Compact_u : A_s_Compact_u → M_s_Compact_u → Option O_s_Compact_u := fun a b => tree_s_Compact_u L_s_Compact_u_4 b.1 some
theorem n_s_Compact_u (L_s_Compact_u_4 : LT_s_Compact_u_4 → LM_s_Compact_u_4 → Option LO_s_Compact_u_4) (x1 : List Int) {α : Type} (K : O_s_Compact_u → Option α) : tree_s_Compact_u L_s_Compact_u_4 x1 K = (tree_s_Compact_u L_s_Compact_u_4 x1 some).bind K := by simp only [tree_s_Compact_u, bind_cond, bind_none', bind_some', bind_bind', bind_sum]
theorem Fe_s_Compact_u (x1 : List Int) : F_s_Compact_u () (x1, ()) = tree_s_Compact_u L_s_Compact_u_4 x1 some := rfl

/-! countersign/vote.once -/
def args_vote_once : SkL := (.cons (.leaf (.slc 22 (.cons (.int .u64) .nil))) .nil)
def mem_vote_once : MSk := []
def outs_vote_once : List OutC := [⟨(.leaf (.slc 22 (.cons (.int .u64) .nil))), []⟩]
abbrev A_vote_once : Type := (List Int × Unit)
abbrev M_vote_once : Type := Unit
abbrev O_vote_once : Type := List Int × Unit
def tree_vote_once (F_s_Values_u : A_s_Values_u → M_s_Values_u → Option O_s_Values_u) (F_s_Sorted_u : A_s_Sorted_u → M_s_Sorted_u → Option O_s_Sorted_u) (F_s_Compact_u : A_s_Compact_u → M_s_Compact_u → Option O_s_Compact_u) {α : Type} (x1 : List Int) (K : O_vote_once → Option α) : Option α :=
 (F_s_Values_u (x1, ()) ()).bind fun r1 =>
 (F_s_Sorted_u ((), ()) ((r1.snd.fst.fst, ()), ())).bind fun r2 =>
 (F_s_Compact_u () (r2.snd.snd.fst, ())).bind fun r3 =>
 K (r3.snd.snd.fst, ())
noncomputable def F_vote_once : A_vote_once → M_vote_once → Option O_vote_once := fun a b => tree_vote_once F_s_Values_u F_s_Sorted_u F_s_Compact_u a.1 some
theorem n_vote_once (F_s_Values_u : A_s_Values_u → M_s_Values_u → Option O_s_Values_u) (F_s_Sorted_u : A_s_Sorted_u → M_s_Sorted_u → Option O_s_Sorted_u) (F_s_Compact_u : A_s_Compact_u → M_s_Compact_u → Option O_s_Compact_u) (x1 : List Int) {α : Type} (K : O_vote_once → Option α) : tree_vote_once F_s_Values_u F_s_Sorted_u F_s_Compact_u x1 K = (tree_vote_once F_s_Values_u F_s_Sorted_u F_s_Compact_u x1 some).bind K := by simp only [tree_vote_once, bind_cond, bind_none', bind_some', bind_bind', bind_sum]
theorem Fe_vote_once (x1 : List Int) : F_vote_once (x1, ()) () = tree_vote_once F_s_Values_u F_s_Sorted_u F_s_Compact_u x1 some := rfl

/-! slices.Index<<>uint64,uint64> -/
def args_s_Index_u : SkL := (.cons (.leaf (.slc 22 (.cons (.int .u64) .nil))) (.cons (.leaf (.int .u64)) .nil))
def mem_s_Index_u : MSk := []
def outs_s_Index_u : List OutC := [⟨(.leaf (.int .i64)), []⟩]
abbrev A_s_Index_u : Type := (List Int × Int × Unit)
abbrev M_s_Index_u : Type := Unit
abbrev O_s_Index_u : Type := Int × Unit
def ltmps_s_Index_u_2 : SkL := (.cons (.leaf (.slc 22 (.cons (.int .u64) .nil))) (.cons (.leaf (.int .u64)) (dz 5 (.cons (.leaf (.int .i64)) (.cons (.leaf (.int .i64)) (dz 10 .nil))))))
def lmem_s_Index_u_2 : MSk := []
def louts_s_Index_u_2 : List OutL := [⟨.ret, (dz 4 (.cons (.leaf (.int .i64)) (dz 14 .nil))), []⟩, ⟨(.exit 0), (dz 19 .nil), []⟩]
abbrev LT_s_Index_u_2 : Type := (List Int × Int × Int × Int × Unit)
abbrev LM_s_Index_u_2 : Type := Unit
abbrev LO_s_Index_u_2 : Type := ((Int × Unit) × Unit) ⊕ (Unit × Unit)
def ltree_s_Index_u_2 {α : Type} (x1 : List Int) (x2 : Int) (x3 : Int) (x4 : Int) (kn : LT_s_Index_u_2 → LM_s_Index_u_2 → Option α) (kr : LO_s_Index_u_2 → Option α) : Option α :=
 cond (decide (x4 < x3))
 (cond (decide (0 ≤ x4))
 (cond (decide (x4 < (↑x1.length : Int)))
 (cond (x2 == x1.getD x4.toNat 0)
 (kr (.inl ((x4, ()), ())))
 (kn (x1, (x2, (x3, (IntKind.i64.wrap (x4 + 1), ())))) ()))
 (none))
 (none))
 (kr (.inr ((), ())))
noncomputable def L_s_Index_u_2 : LT_s_Index_u_2 → LM_s_Index_u_2 → Option LO_s_Index_u_2 := fun x y => runL (fun p => (fun (a : LT_s_Index_u_2) (b : LM_s_Index_u_2) => ltree_s_Index_u_2 a.1 a.2.1 a.2.2.1 a.2.2.2.1 (fun a' b' => some (.inl (a', b'))) fun r => some (.inr r)) p.1 p.2) (x, y)
theorem nl_s_Index_u_2 (x1 : List Int) (x2 : Int) (x3 : Int) (x4 : Int) {α : Type} (kn : LT_s_Index_u_2 → LM_s_Index_u_2 → Option α) (kr : LO_s_Index_u_2 → Option α) : ltree_s_Index_u_2 x1 x2 x3 x4 kn kr = (ltree_s_Index_u_2 x1 x2 x3 x4 (fun a b => some (.inl (a, b))) fun r => some (.inr r)).bind (Sum.elim (fun p : LT_s_Index_u_2 × LM_s_Index_u_2 => kn p.1 p.2) kr) := by simp only [ltree_s_Index_u_2, bind_cond, bind_none', bind_some', bind_bind', bind_sum, Sum.elim_inl, Sum.elim_inr]
theorem Le_s_Index_u_2 (x1 : List Int) (x2 : Int) (x3 : Int) (x4 : Int) : L_s_Index_u_2 (x1, (x2, (x3, (x4, ())))) () = ltree_s_Index_u_2 x1 x2 x3 x4 L_s_Index_u_2 some := runL_tree (A := LT_s_Index_u_2) (B := LM_s_Index_u_2) (R := LO_s_Index_u_2) (fun a b kn kr => ltree_s_Index_u_2 a.1 a.2.1 a.2.2.1 a.2.2.2.1 kn kr) (fun a b kn kr => nl_s_Index_u_2 a.1 a.2.1 a.2.2.1 a.2.2.2.1 kn kr) (x1, (x2, (x3, (x4, ())))) ()
def tree_s_Index_u (L_s_Index_u_2 : LT_s_Index_u_2 → LM_s_Index_u_2 → Option LO_s_Index_u_2) {α : Type} (x1 : List Int) (x2 : Int) (K : O_s_Index_u → Option α) : Option α :=
 (L_s_Index_u_2 (x1, x2, (↑x1.length : Int), 0, ()) ()).bind fun r1 =>
 Sum.elim (fun u2 =>
 K (u2.fst.fst, ()))
 (fun u2 =>
 K (-1, ())) (r1)
noncomputable def F_s_Index_u : A_s_Index_u → M_s_Index_u → Option O_s_Index_u := fun a b => tree_s_Index_u L_s_Index_u_2 a.1 a.2.1 some
theorem n_s_Index_u (L_s_Index_u_2 : LT_s_Index_u_2 → LM_s_Index_u_2 → Option LO_s_Index_u_2) (x1 : List Int) (x2 : Int) {α : Type} (K : O_s_Index_u → Option α) : tree_s_Index_u L_s_Index_u_2 x1 x2 K = (tree_s_Index_u L_s_Index_u_2 x1 x2 some).bind K := by simp only [tree_s_Index_u, bind_cond, bind_none', bind_some', bind_bind', bind_sum]
theorem Fe_s_Index_u (x1 : List Int) (x2 : Int) : F_s_Index_u (x1, (x2, ())) () = tree_s_Index_u L_s_Index_u_2 x1 x2 some := rfl

/-! slices.Contains<<>uint64,uint64> -/
def args_s_Contains_u : SkL := (.cons (.leaf (.slc 22 (.cons (.int .u64) .nil))) (.cons (.leaf (.int .u64)) .nil))
def mem_s_Contains_u : MSk := []
def outs_s_Contains_u : List OutC := [⟨(.leaf .bool), []⟩]
abbrev A_s_Contains_u : Type := (List Int × Int × Unit)
abbrev M_s_Contains_u : Type := Unit
abbrev O_s_Contains_u : Type := Bool × Unit
def tree_s_Contains_u (F_s_Index_u : A_s_Index_u → M_s_Index_u → Option O_s_Index_u) {α : Type} (x1 : List Int) (x2 : Int) (K : O_s_Contains_u → Option α) : Option α :=
 (F_s_Index_u (x1, x2, ()) ()).bind fun r1 =>
 K (decide (r1.fst ≥ 0), ())
noncomputable def F_s_Contains_u : A_s_Contains_u → M_s_Contains_u → Option O_s_Contains_u := fun a b => tree_s_Contains_u F_s_Index_u a.1 a.2.1 some
theorem n_s_Contains_u (F_s_Index_u : A_s_Index_u → M_s_Index_u → Option O_s_Index_u) (x1 : List Int) (x2 : Int) {α : Type} (K : O_s_Contains_u → Option α) : tree_s_Contains_u F_s_Index_u x1 x2 K = (tree_s_Contains_u F_s_Index_u x1 x2 some).bind K := by simp only [tree_s_Contains_u, bind_cond, bind_none', bind_some', bind_bind', bind_sum]
theorem Fe_s_Contains_u (x1 : List Int) (x2 : Int) : F_s_Contains_u (x1, (x2, ())) () = tree_s_Contains_u F_s_Index_u x1 x2 some := rfl

def args_s_Clone_u : SkL := (.cons (.leaf (.slc 22 (.cons (.int .u64) .nil))) .nil)
def mem_s_Clone_u : MSk := []
def outs_s_Clone_u : List OutC := [⟨(.const (.slw 0)), [(0, .row 22 (.cons (.int .u64) .nil))]⟩]
abbrev A_s_Clone_u : Type := (List Int × Unit)
abbrev M_s_Clone_u : Type := Unit
abbrev O_s_Clone_u : Type := Unit × (List Int × Unit)
def F_s_Clone_u : A_s_Clone_u → M_s_Clone_u → Option O_s_Clone_u := fun a b => cond (decide (a.1.length * 8 ≤ 140737488355328)) (some ((), (a.1, ()))) none

/-! countersign/vote.Most -/
def args_vote_Most : SkL := (.cons (.leaf (.slc 22 (.cons (.int .u64) .nil))) (.cons (.leaf (.slc 22 (.cons (.int .u64) .nil))) .nil))
def mem_vote_Most : MSk := []
def outs_vote_Most : List OutC := [⟨(.leaf .bool), []⟩]
abbrev A_vote_Most : Type := (List Int × List Int × Unit)
abbrev M_vote_Most : Type := Unit
abbrev O_vote_Most : Type := Bool × Unit
def ltmps_vote_Most_4 : SkL := (.cons (.const .dead) (.cons (.leaf (.slc 22 (.cons (.int .u64) .nil))) (dz 3 (.cons (.leaf (.slc 22 (.cons (.int .u64) .nil))) (.cons (.leaf (.int .i64)) (dz 4 (.cons (.leaf (.slc 22 (.cons (.int .u64) .nil))) (.cons (.leaf (.int .i64)) (.cons (.leaf (.int .i64)) (dz 14 .nil))))))))))
def lmem_vote_Most_4 : MSk := []
def louts_vote_Most_4 : List OutL := [⟨(.exit 0), (dz 5 (.cons (.leaf (.slc 22 (.cons (.int .u64) .nil))) (.cons (.leaf (.int .i64)) (dz 21 .nil)))), []⟩]
abbrev LT_vote_Most_4 : Type := (List Int × List Int × Int × List Int × Int × Int × Unit)
abbrev LM_vote_Most_4 : Type := Unit
abbrev LO_vote_Most_4 : Type := (List Int × Int × Unit) × Unit
def ltree_vote_Most_4 (F_s_Contains_u : A_s_Contains_u → M_s_Contains_u → Option O_s_Contains_u) {α : Type} (x1 : List Int) (x2 : List Int) (x3 : Int) (x4 : List Int) (x5 : Int) (x6 : Int) (kn : LT_vote_Most_4 → LM_vote_Most_4 → Option α) (kr : LO_vote_Most_4 → Option α) : Option α :=
 cond (decide (x6 < x5))
 (cond (decide (0 ≤ x6))
 (cond (decide (x6 < (↑x4.length : Int)))
 ((F_s_Contains_u (x1, x4.getD x6.toNat 0, ()) ()).bind fun r1 =>
 cond (r1.fst)
 (kn (x1, (x2, (IntKind.i64.wrap (x3 + 1), (x4, (x5, (IntKind.i64.wrap (x6 + 1), ())))))) ())
 (kn (x1, (x2, (x3, (x4, (x5, (IntKind.i64.wrap (x6 + 1), ())))))) ()))
 (none))
 (none))
 (kr ((x2, (x3, ())), ()))
noncomputable def L_vote_Most_4 : LT_vote_Most_4 → LM_vote_Most_4 → Option LO_vote_Most_4 := fun x y => runL (fun p => (fun (a : LT_vote_Most_4) (b : LM_vote_Most_4) => ltree_vote_Most_4 F_s_Contains_u a.1 a.2.1 a.2.2.1 a.2.2.2.1 a.2.2.2.2.1 a.2.2.2.2.2.1 (fun a' b' => some (.inl (a', b'))) fun r => some (.inr r)) p.1 p.2) (x, y)
theorem nl_vote_Most_4 (F_s_Contains_u : A_s_Contains_u → M_s_Contains_u → Option O_s_Contains_u) (x1 : List Int) (x2 : List Int) (x3 : Int) (x4 : List Int) (x5 : Int) (x6 : Int) {α : Type} (kn : LT_vote_Most_4 → LM_vote_Most_4 → Option α) (kr : LO_vote_Most_4 → Option α) : ltree_vote_Most_4 F_s_Contains_u x1 x2 x3 x4 x5 x6 kn kr = (ltree_vote_Most_4 F_s_Contains_u x1 x2 x3 x4 x5 x6 (fun a b => some (.inl (a, b))) fun r => some (.inr r)).bind (Sum.elim (fun p : LT_vote_Most_4 × LM_vote_Most_4 => kn p.1 p.2) kr) := by simp only [ltree_vote_Most_4, bind_cond, bind_none', bind_some', bind_bind', bind_sum, Sum.elim_inl, Sum.elim_inr]
theorem Le_vote_Most_4 (x1 : List Int) (x2 : List Int) (x3 : Int) (x4 : List Int) (x5 : Int) (x6 : Int) : L_vote_Most_4 (x1, (x2, (x3, (x4, (x5, (x6, ())))))) () = ltree_vote_Most_4 F_s_Contains_u x1 x2 x3 x4 x5 x6 L_vote_Most_4 some := runL_tree (A := LT_vote_Most_4) (B := LM_vote_Most_4) (R := LO_vote_Most_4) (fun a b kn kr => ltree_vote_Most_4 F_s_Contains_u a.1 a.2.1 a.2.2.1 a.2.2.2.1 a.2.2.2.2.1 a.2.2.2.2.2.1 kn kr) (fun a b kn kr => nl_vote_Most_4 F_s_Contains_u a.1 a.2.1 a.2.2.1 a.2.2.2.1 a.2.2.2.2.1 a.2.2.2.2.2.1 kn kr) (x1, (x2, (x3, (x4, (x5, (x6, ())))))) ()
def tree_vote_Most (F_vote_once : A_vote_once → M_vote_once → Option O_vote_once) (L_vote_Most_4 : LT_vote_Most_4 → LM_vote_Most_4 → Option LO_vote_Most_4) {α : Type} (x1 : List Int) (x2 : List Int) (K : O_vote_Most → Option α) : Option α :=
 (F_vote_once (x1, ()) ()).bind fun r1 =>
 (L_vote_Most_4 (x2, r1.fst, 0, r1.fst, (↑r1.fst.length : Int), 0, ()) ()).bind fun r2 =>
 K (decide (r2.fst.snd.fst > IntKind.i64.wrap ((↑r2.fst.fst.length : Int).tdiv 2)), ())
noncomputable def F_vote_Most : A_vote_Most → M_vote_Most → Option O_vote_Most := fun a b => tree_vote_Most F_vote_once L_vote_Most_4 a.1 a.2.1 some
theorem n_vote_Most (F_vote_once : A_vote_once → M_vote_once → Option O_vote_once) (L_vote_Most_4 : LT_vote_Most_4 → LM_vote_Most_4 → Option LO_vote_Most_4) (x1 : List Int) (x2 : List Int) {α : Type} (K : O_vote_Most → Option α) : tree_vote_Most F_vote_once L_vote_Most_4 x1 x2 K = (tree_vote_Most F_vote_once L_vote_Most_4 x1 x2 some).bind K := by simp only [tree_vote_Most, bind_cond, bind_none', bind_some', bind_bind', bind_sum]
theorem Fe_vote_Most (x1 : List Int) (x2 : List Int) : F_vote_Most (x1, (x2, ())) () = tree_vote_Most F_vote_once L_vote_Most_4 x1 x2 some := rfl

/-! countersign/vote.Change$1 -/
def args_vote_Change_1 : SkL := (.cons (.leaf (.int .u64)) (.cons (.const (.ptr 0 0 0)) .nil))
def mem_vote_Change_1 : MSk := [(0, .cells (.cons (.leaf (.int .u64)) .nil))]
def outs_vote_Change_1 : List OutC := [⟨(.leaf .bool), []⟩]
abbrev A_vote_Change_1 : Type := (Int × Unit)
abbrev M_vote_Change_1 : Type := ((Int × Unit) × Unit)
abbrev O_vote_Change_1 : Type := Bool × Unit
def routs_vote_Change_1 : List OutC := [⟨(.leaf .bool), [(0, .cells (.cons (.leaf (.int .u64)) .nil))]⟩]
abbrev RO_vote_Change_1 : Type := Bool × ((Int × Unit) × Unit)
def tree_vote_Change_1 {α : Type} (x1 : Int) (x2 : Int) (K : RO_vote_Change_1 → Option α) : Option α :=
 K (x1 == x2, ((x2, ()), ()))
noncomputable def R_vote_Change_1 : A_vote_Change_1 → M_vote_Change_1 → Option RO_vote_Change_1 := fun a b => tree_vote_Change_1 a.1 b.1.1 some
theorem reads_vote_Change_1 (a : A_vote_Change_1) (b : M_vote_Change_1) : Leaf (fun r : RO_vote_Change_1 => r.2 = b) (R_vote_Change_1 a b) := by
 show Leaf _ (tree_vote_Change_1 a.1 b.1.1 some)
 unfold tree_vote_Change_1
 repeat (first | (with_reducible refine leaf_bind fun _ => ?_) | (with_reducible apply leaf_cond) | (with_reducible refine leaf_sum (fun _ => ?_) (fun _ => ?_)) | (with_reducible exact leaf_none) | exact leaf_some rfl)
noncomputable def F_vote_Change_1 : A_vote_Change_1 → M_vote_Change_1 → Option O_vote_Change_1 := fun a b => (R_vote_Change_1 a b).map fun r => (r.1, ())
theorem n_vote_Change_1 (x1 : Int) (x2 : Int) {α : Type} (K : RO_vote_Change_1 → Option α) : tree_vote_Change_1 x1 x2 K = (tree_vote_Change_1 x1 x2 some).bind K := by simp only [tree_vote_Change_1, bind_cond, bind_none', bind_some', bind_bind', bind_sum]
theorem Fe_vote_Change_1 (x1 : Int) (x2 : Int) : F_vote_Change_1 (x1, ()) ((x2, ()), ()) = (tree_vote_Change_1 x1 x2 some).map fun r => (r.1, ()) := rfl

/-! slices.IndexFunc<<>uint64,uint64> -/
def args_s_IndexFunc_u : SkL := (.cons (.leaf (.slc 22 (.cons (.int .u64) .nil))) (.cons (.fn 50 (.cons (.const (.ptr 0 0 0)) .nil)) .nil))
def mem_s_IndexFunc_u : MSk := [(0, .cells (.cons (.leaf (.int .u64)) .nil))]
def outs_s_IndexFunc_u : List OutC := [⟨(.leaf (.int .i64)), []⟩]
abbrev A_s_IndexFunc_u : Type := (List Int × Unit × Unit)
abbrev M_s_IndexFunc_u : Type := ((Int × Unit) × Unit)
abbrev O_s_IndexFunc_u : Type := Int × Unit
def ltmps_s_IndexFunc_u_2 : SkL := (.cons (.leaf (.slc 22 (.cons (.int .u64) .nil))) (.cons (.fn 50 (.cons (.const (.ptr 0 0 0)) .nil)) (dz 5 (.cons (.leaf (.int .i64)) (.cons (.leaf (.int .i64)) (dz 10 .nil))))))
def lmem_s_IndexFunc_u_2 : MSk := [(0, .cells (.cons (.leaf (.int .u64)) .nil))]
def louts_s_IndexFunc_u_2 : List OutL := [⟨.ret, (dz 4 (.cons (.leaf (.int .i64)) (dz 14 .nil))), [(0, .cells (.cons (.leaf (.int .u64)) .nil))]⟩, ⟨(.exit 0), (dz 19 .nil), [(0, .cells (.cons (.leaf (.int .u64)) .nil))]⟩]
abbrev LT_s_IndexFunc_u_2 : Type := (List Int × Unit × Int × Int × Unit)
abbrev LM_s_IndexFunc_u_2 : Type := ((Int × Unit) × Unit)
abbrev LO_s_IndexFunc_u_2 : Type := ((Int × Unit) × ((Int × Unit) × Unit)) ⊕ (Unit × ((Int × Unit) × Unit))
def ltree_s_IndexFunc_u_2 (F_vote_Change_1 : A_vote_Change_1 → M_vote_Change_1 → Option O_vote_Change_1) {α : Type} (x1 : List Int) (x2 : Int) (x3 : Int) (x4 : Int) (kn : LT_s_IndexFunc_u_2 → LM_s_IndexFunc_u_2 → Option α) (kr : LO_s_IndexFunc_u_2 → Option α) : Option α :=
 cond (decide (x3 < x2))
 (cond (decide (0 ≤ x3))
 (cond (decide (x3 < (↑x1.length : Int)))
 ((F_vote_Change_1 (x1.getD x3.toNat 0, ()) ((x4, ()), ())).bind fun r1 =>
 cond (r1.fst)
 (kr (.inl ((x3, ()), ((x4, ()), ()))))
 (kn (x1, ((), (x2, (IntKind.i64.wrap (x3 + 1), ())))) ((x4, ()), ())))
 (none))
 (none))
 (kr (.inr ((), ((x4, ()), ()))))
noncomputable def L_s_IndexFunc_u_2 : LT_s_IndexFunc_u_2 → LM_s_IndexFunc_u_2 → Option LO_s_IndexFunc_u_2 := fun x y => runL (fun p => (fun (a : LT_s_IndexFunc_u_2) (b : LM_s_IndexFunc_u_2) => ltree_s_IndexFunc_u_2 F_vote_Change_1 a.1 a.2.2.1 a.2.2.2.1 b.1.1 (fun a' b' => some (.inl (a', b'))) fun r => some (.inr r)) p.1 p.2) (x, y)
theorem nl_s_IndexFunc_u_2 (F_vote_Change_1 : A_vote_Change_1 → M_vote_Change_1 → Option O_vote_Change_1) (x1 : List Int) (x2 : Int) (x3 : Int) (x4 : Int) {α : Type} (kn : LT_s_IndexFunc_u_2 → LM_s_IndexFunc_u_2 → Option α) (kr : LO_s_IndexFunc_u_2 → Option α) : ltree_s_IndexFunc_u_2 F_vote_Change_1 x1 x2 x3 x4 kn kr = (ltree_s_IndexFunc_u_2 F_vote_Change_1 x1 x2 x3 x4 (fun a b => some (.inl (a, b))) fun r => some (.inr r)).bind (Sum.elim (fun p : LT_s_IndexFunc_u_2 × LM_s_IndexFunc_u_2 => kn p.1 p.2) kr) := by simp only [ltree_s_IndexFunc_u_2, bind_cond, bind_none', bind_some', bind_bind', bind_sum, Sum.elim_inl, Sum.elim_inr]
theorem Le_s_IndexFunc_u_2 (x1 : List Int) (x2 : Int) (x3 : Int) (x4 : Int) : L_s_IndexFunc_u_2 (x1, ((), (x2, (x3, ())))) ((x4, ()), ()) = ltree_s_IndexFunc_u_2 F_vote_Change_1 x1 x2 x3 x4 L_s_IndexFunc_u_2 some := runL_tree (A := LT_s_IndexFunc_u_2) (B := LM_s_IndexFunc_u_2) (R := LO_s_IndexFunc_u_2) (fun a b kn kr => ltree_s_IndexFunc_u_2 F_vote_Change_1 a.1 a.2.2.1 a.2.2.2.1 b.1.1 kn kr) (fun a b kn kr => nl_s_IndexFunc_u_2 F_vote_Change_1 a.1 a.2.2.1 a.2.2.2.1 b.1.1 kn kr) (x1, ((), (x2, (x3, ())))) ((x4, ()), ())
def routs_s_IndexFunc_u : List OutC := [⟨(.leaf (.int .i64)), [(0, .cells (.cons (.leaf (.int .u64)) .nil))]⟩]
abbrev RO_s_IndexFunc_u : Type := Int × ((Int × Unit) × Unit)
def tree_s_IndexFunc_u (L_s_IndexFunc_u_2 : LT_s_IndexFunc_u_2 → LM_s_IndexFunc_u_2 → Option LO_s_IndexFunc_u_2) {α : Type} (x1 : List Int) (x2 : Int) (K : RO_s_IndexFunc_u → Option α) : Option α :=
 (L_s_IndexFunc_u_2 (x1, (), (↑x1.length : Int), 0, ()) ((x2, ()), ())).bind fun r1 =>
 Sum.elim (fun u2 =>
 K (u2.fst.fst, ((u2.snd.fst.fst, ()), ())))
 (fun u2 =>
 K (-1, ((u2.snd.fst.fst, ()), ()))) (r1)
noncomputable def R_s_IndexFunc_u : A_s_IndexFunc_u → M_s_IndexFunc_u → Option RO_s_IndexFunc_u := fun a b => tree_s_IndexFunc_u L_s_IndexFunc_u_2 a.1 b.1.1 some
theorem lr_s_IndexFunc_u_2 (x : LT_s_IndexFunc_u_2) (y : LM_s_IndexFunc_u_2) : Leaf (fun r : LO_s_IndexFunc_u_2 => ((Sum.elim (fun r => r.2 = y) (fun r => r.2 = y)) : LO_s_IndexFunc_u_2 → Prop) r) (L_s_IndexFunc_u_2 x y) := by
 refine leaf_loop (fun s => s.2 = y) (fun s hs => ?_) rfl
 obtain ⟨a, b⟩ := s
 cases hs
 dsimp only
 unfold ltree_s_IndexFunc_u_2
 repeat (first | (with_reducible refine leaf_bind fun _ => ?_) | (with_reducible apply leaf_cond) | (with_reducible refine leaf_sum (fun _ => ?_) (fun _ => ?_)) | (with_reducible exact leaf_none) | exact leaf_some rfl)
theorem reads_s_IndexFunc_u (a : A_s_IndexFunc_u) (b : M_s_IndexFunc_u) : Leaf (fun r : RO_s_IndexFunc_u => r.2 = b) (R_s_IndexFunc_u a b) := by
 show Leaf _ (tree_s_IndexFunc_u L_s_IndexFunc_u_2 a.1 b.1.1 some)
 unfold tree_s_IndexFunc_u
 repeat (first | ((with_reducible refine leaf_bindL (lr_s_IndexFunc_u_2 _ _) fun r hr => ?_); first | (rcases r with r | r <;> (have hr : r.2 = _ := hr; obtain ⟨r1, r2⟩ := r; cases hr; simp only [Sum.elim_inl, Sum.elim_inr])) | (have hr : r.2 = _ := hr; obtain ⟨r1, r2⟩ := r; cases hr)) | (with_reducible refine leaf_bind fun _ => ?_) | (with_reducible apply leaf_cond) | (with_reducible refine leaf_sum (fun _ => ?_) (fun _ => ?_)) | (with_reducible exact leaf_none) | exact leaf_some rfl)
noncomputable def F_s_IndexFunc_u : A_s_IndexFunc_u → M_s_IndexFunc_u → Option O_s_IndexFunc_u := fun a b => (R_s_IndexFunc_u a b).map fun r => (r.1, ())
theorem n_s_IndexFunc_u (L_s_IndexFunc_u_2 : LT_s_IndexFunc_u_2 → LM_s_IndexFunc_u_2 → Option LO_s_IndexFunc_u_2) (x1 : List Int) (x2 : Int) {α : Type} (K : RO_s_IndexFunc_u → Option α) : tree_s_IndexFunc_u L_s_IndexFunc_u_2 x1 x2 K = (tree_s_IndexFunc_u L_s_IndexFunc_u_2 x1 x2 some).bind K := by simp only [tree_s_IndexFunc_u, bind_cond, bind_none', bind_some', bind_bind', bind_sum]
theorem Fe_s_IndexFunc_u (x1 : List Int) (x2 : Int) : F_s_IndexFunc_u (x1, ((), ())) ((x2, ()), ()) = (tree_s_IndexFunc_u L_s_IndexFunc_u_2 x1 x2 some).map fun r => (r.1, ()) := rfl

/-! slices.DeleteFunc<<>uint64,uint64> -/
def args_s_DeleteFunc_u : SkL := (.cons (.const (.slw 0)) (.cons (.fn 50 (.cons (.const (.ptr 1 0 0)) .nil)) .nil))
def mem_s_DeleteFunc_u : MSk := [(0, .row 22 (.cons (.int .u64) .nil)), (1, .cells (.cons (.leaf (.int .u64)) .nil))]
def outs_s_DeleteFunc_u : List OutC := [⟨(.const (.slw 2)), [(0, .gone), (1, .cells (.cons (.leaf (.int .u64)) .nil)), (2, .row 22 (.cons (.int .u64) .nil))]⟩]
abbrev A_s_DeleteFunc_u : Type := (Unit × Unit)
abbrev M_s_DeleteFunc_u : Type := (List Int × (Int × Unit) × Unit)
abbrev O_s_DeleteFunc_u : Type := Unit × (Unit × (Int × Unit) × List Int × Unit)
def ltmps_s_DeleteFunc_u_5 : SkL := (.cons (.const (.slw 0)) (.cons (.fn 50 (.cons (.const (.ptr 1 0 0)) .nil)) (dz 3 (.cons (.leaf (.int .i64)) (.cons (.leaf (.int .i64)) (dz 35 .nil))))))
def lmem_s_DeleteFunc_u_5 : MSk := [(0, .row 22 (.cons (.int .u64) .nil)), (1, .cells (.cons (.leaf (.int .u64)) .nil))]
def louts_s_DeleteFunc_u_5 : List OutL := [⟨(.exit 0), (.cons (.const (.slw 0)) (dz 4 (.cons (.leaf (.int .i64)) (dz 36 .nil)))), [(0, .row 22 (.cons (.int .u64) .nil)), (1, .cells (.cons (.leaf (.int .u64)) .nil))]⟩]
abbrev LT_s_DeleteFunc_u_5 : Type := (Unit × Int × Int × Unit)
abbrev LM_s_DeleteFunc_u_5 : Type := (List Int × (Int × Unit) × Unit)
abbrev LO_s_DeleteFunc_u_5 : Type := (Int × Unit) × (List Int × (Int × Unit) × Unit)
def ltree_s_DeleteFunc_u_5 (F_vote_Change_1 : A_vote_Change_1 → M_vote_Change_1 → Option O_vote_Change_1) {α : Type} (x1 : Int) (x2 : Int) (x3 : List Int) (x4 : Int) (kn : LT_s_DeleteFunc_u_5 → LM_s_DeleteFunc_u_5 → Option α) (kr : LO_s_DeleteFunc_u_5 → Option α) : Option α :=
 cond (decide (x2 < (↑x3.length : Int)))
 (cond (decide (0 ≤ x2))
 (cond (decide (x2 < (↑x3.length : Int)))
 ((F_vote_Change_1 (x3.getD (0 + x2.toNat) 0, ()) ((x4, ()), ())).bind fun r1 =>
 cond (!r1.fst)
 (cond (decide (0 ≤ x1))
 (cond (decide (x1 < (↑x3.length : Int)))
 (kn ((), (IntKind.i64.wrap (x1 + 1), (IntKind.i64.wrap (x2 + 1), ()))) (x3.set (0 + x1.toNat) (x3.getD (0 + x2.toNat) 0), ((x4, ()), ())))
 (none))
 (none))
 (kn ((), (x1, (IntKind.i64.wrap (x2 + 1), ()))) (x3, ((x4, ()), ()))))
 (none))
 (none))
 (kr ((x1, ()), (x3, ((x4, ()), ()))))
noncomputable def L_s_DeleteFunc_u_5 : LT_s_DeleteFunc_u_5 → LM_s_DeleteFunc_u_5 → Option LO_s_DeleteFunc_u_5 := fun x y => runL (fun p => (fun (a : LT_s_DeleteFunc_u_5) (b : LM_s_DeleteFunc_u_5) => ltree_s_DeleteFunc_u_5 F_vote_Change_1 a.2.1 a.2.2.1 b.1 b.2.1.1 (fun a' b' => some (.inl (a', b'))) fun r => some (.inr r)) p.1 p.2) (x, y)
theorem nl_s_DeleteFunc_u_5 (F_vote_Change_1 : A_vote_Change_1 → M_vote_Change_1 → Option O_vote_Change_1) (x1 : Int) (x2 : Int) (x3 : List Int) (x4 : Int) {α : Type} (kn : LT_s_DeleteFunc_u_5 → LM_s_DeleteFunc_u_5 → Option α) (kr : LO_s_DeleteFunc_u_5 → Option α) : ltree_s_DeleteFunc_u_5 F_vote_Change_1 x1 x2 x3 x4 kn kr = (ltree_s_DeleteFunc_u_5 F_vote_Change_1 x1 x2 x3 x4 (fun a b => some (.inl (a, b))) fun r => some (.inr r)).bind (Sum.elim (fun p : LT_s_DeleteFunc_u_5 × LM_s_DeleteFunc_u_5 => kn p.1 p.2) kr) := by simp only [ltree_s_DeleteFunc_u_5, bind_cond, bind_none', bind_some', bind_bind', bind_sum, Sum.elim_inl, Sum.elim_inr]
theorem Le_s_DeleteFunc_u_5 (x1 : Int) (x2 : Int) (x3 : List Int) (x4 : Int) : L_s_DeleteFunc_u_5 ((), (x1, (x2, ()))) (x3, ((x4, ()), ())) = ltree_s_DeleteFunc_u_5 F_vote_Change_1 x1 x2 x3 x4 L_s_DeleteFunc_u_5 some := runL_tree (A := LT_s_DeleteFunc_u_5) (B := LM_s_DeleteFunc_u_5) (R := LO_s_DeleteFunc_u_5) (fun a b kn kr => ltree_s_DeleteFunc_u_5 F_vote_Change_1 a.2.1 a.2.2.1 b.1 b.2.1.1 kn kr) (fun a b kn kr => nl_s_DeleteFunc_u_5 F_vote_Change_1 a.2.1 a.2.2.1 b.1 b.2.1.1 kn kr) ((), (x1, (x2, ()))) (x3, ((x4, ()), ()))
def tree_s_DeleteFunc_u (F_s_IndexFunc_u : A_s_IndexFunc_u → M_s_IndexFunc_u → Option O_s_IndexFunc_u) (L_s_DeleteFunc_u_5 : LT_s_DeleteFunc_u_5 → LM_s_DeleteFunc_u_5 → Option LO_s_DeleteFunc_u_5) {α : Type} (x1 : List Int) (x2 : Int) (K : O_s_DeleteFunc_u → Option α) : Option α :=
 (F_s_IndexFunc_u (x1, (), ()) ((x2, ()), ())).bind fun r1 =>
 cond (r1.fst == -1)
 (K ((), ((), ((x2, ()), (x1, ())))))
 ((L_s_DeleteFunc_u_5 ((), r1.fst, IntKind.i64.wrap (r1.fst + 1), ()) (x1, (x2, ()), ())).bind fun r2 =>
 cond (decide (0 ≤ r2.fst.fst))
 (cond (decide (r2.fst.fst ≤ (↑r2.snd.fst.length : Int)))
 (cond (decide (0 ≤ r2.fst.fst))
 (cond (decide (r2.fst.fst ≤ (↑(fillL (0 + r2.fst.fst.toNat) (r2.snd.fst.length - r2.fst.fst.toNat) 0 r2.snd.fst).length : Int)))
 (K ((), ((), ((r2.snd.snd.fst.fst, ()), (List.take (r2.fst.fst.toNat - 0) (List.drop 0 (fillL (0 + r2.fst.fst.toNat) (r2.snd.fst.length - r2.fst.fst.toNat) 0 r2.snd.fst)), ())))))
 (none))
 (none))
 (none))
 (none))
noncomputable def F_s_DeleteFunc_u : A_s_DeleteFunc_u → M_s_DeleteFunc_u → Option O_s_DeleteFunc_u := fun a b => tree_s_DeleteFunc_u F_s_IndexFunc_u L_s_DeleteFunc_u_5 b.1 b.2.1.1 some
theorem n_s_DeleteFunc_u (F_s_IndexFunc_u : A_s_IndexFunc_u → M_s_IndexFunc_u → Option O_s_IndexFunc_u) (L_s_DeleteFunc_u_5 : LT_s_DeleteFunc_u_5 → LM_s_DeleteFunc_u_5 → Option LO_s_DeleteFunc_u_5) (x1 : List Int) (x2 : Int) {α : Type} (K : O_s_DeleteFunc_u → Option α) : tree_s_DeleteFunc_u F_s_IndexFunc_u L_s_DeleteFunc_u_5 x1 x2 K = (tree_s_DeleteFunc_u F_s_IndexFunc_u L_s_DeleteFunc_u_5 x1 x2 some).bind K := by simp only [tree_s_DeleteFunc_u, bind_cond, bind_none', bind_some', bind_bind', bind_sum]
theorem Fe_s_DeleteFunc_u (x1 : List Int) (x2 : Int) : F_s_DeleteFunc_u ((), ()) (x1, ((x2, ()), ())) = tree_s_DeleteFunc_u F_s_IndexFunc_u L_s_DeleteFunc_u_5 x1 x2 some := rfl

/-! countersign/vote.Change -/
def args_vote_Change : SkL := (.cons (.leaf (.slc 22 (.cons (.int .u64) .nil))) (.cons (.leaf (.int .u64)) .nil))
def mem_vote_Change : MSk := []
def outs_vote_Change : List OutC := [⟨(.tup (.cons (.leaf (.slc 22 (.cons (.int .u64) .nil))) (.cons (.leaf .bool) .nil))), []⟩]
abbrev A_vote_Change : Type := (List Int × Int × Unit)
abbrev M_vote_Change : Type := Unit
abbrev O_vote_Change : Type := (List Int × Bool × Unit) × Unit
def tree_vote_Change (F_vote_once : A_vote_once → M_vote_once → Option O_vote_once) (F_s_Clone_u : A_s_Clone_u → M_s_Clone_u → Option O_s_Clone_u) (F_s_DeleteFunc_u : A_s_DeleteFunc_u → M_s_DeleteFunc_u → Option O_s_DeleteFunc_u) {α : Type} (x1 : List Int) (x2 : Int) (K : O_vote_Change → Option α) : Option α :=
 (F_vote_once (x1, ()) ()).bind fun r1 =>
 (F_s_Clone_u (r1.fst, ()) ()).bind fun r2 =>
 (F_s_DeleteFunc_u ((), ()) (r2.snd.fst, (x2, ()), ())).bind fun r3 =>
 cond ((↑r3.snd.snd.snd.fst.length : Int) == (↑r1.fst.length : Int))
 (cond (decide ((r3.snd.snd.snd.fst.length + 1) * 8 ≤ 140737488355328))
 ((F_vote_once (r3.snd.snd.snd.fst ++ ([] ++ [r3.snd.snd.fst.fst]), ()) ()).bind fun r4 =>
 cond ((↑r4.fst.length : Int) == 0)
 (K ((r1.fst, (false, ())), ()))
 (cond (decide ((↑r4.fst.length : Int) > 7))
 (K ((r1.fst, (false, ())), ()))
 (K ((r4.fst, (true, ())), ()))))
 (none))
 (cond ((↑r3.snd.snd.snd.fst.length : Int) == 0)
 (K ((r1.fst, (false, ())), ()))
 (cond (decide ((↑r3.snd.snd.snd.fst.length : Int) > 7))
 (K ((r1.fst, (false, ())), ()))
 (K ((r3.snd.snd.snd.fst, (true, ())), ()))))
noncomputable def F_vote_Change : A_vote_Change → M_vote_Change → Option O_vote_Change := fun a b => tree_vote_Change F_vote_once F_s_Clone_u F_s_DeleteFunc_u a.1 a.2.1 some
theorem n_vote_Change (F_vote_once : A_vote_once → M_vote_once → Option O_vote_once) (F_s_Clone_u : A_s_Clone_u → M_s_Clone_u → Option O_s_Clone_u) (F_s_DeleteFunc_u : A_s_DeleteFunc_u → M_s_DeleteFunc_u → Option O_s_DeleteFunc_u) (x1 : List Int) (x2 : Int) {α : Type} (K : O_vote_Change → Option α) : tree_vote_Change F_vote_once F_s_Clone_u F_s_DeleteFunc_u x1 x2 K = (tree_vote_Change F_vote_once F_s_Clone_u F_s_DeleteFunc_u x1 x2 some).bind K := by simp only [tree_vote_Change, bind_cond, bind_none', bind_some', bind_bind', bind_sum]
theorem Fe_vote_Change (x1 : List Int) (x2 : Int) : F_vote_Change (x1, (x2, ())) () = tree_vote_Change F_vote_once F_s_Clone_u F_s_DeleteFunc_u x1 x2 some := rfl

/-! countersign/vote.Seen -/
def args_vote_Seen : SkL := (.cons (.agg (.cons (.leaf (.int .u64)) (.cons (.leaf (.int .u64)) .nil))) (.cons (.leaf (.int .u64)) .nil))
def mem_vote_Seen : MSk := []
def outs_vote_Seen : List OutC := [⟨(.agg (.cons (.leaf (.int .u64)) (.cons (.leaf (.int .u64)) .nil))), []⟩]
abbrev A_vote_Seen : Type := ((Int × Int × Unit) × Int × Unit)
abbrev M_vote_Seen : Type := Unit
abbrev O_vote_Seen : Type := (Int × Int × Unit) × Unit
def tree_vote_Seen {α : Type} (x1 : Int) (x2 : Int) (x3 : Int) (K : O_vote_Seen → Option α) : Option α :=
 cond (decide (x1 ≥ x3))
 (K ((x1, (x2, ())), ()))
 (K ((x3, (0, ())), ()))
noncomputable def F_vote_Seen : A_vote_Seen → M_vote_Seen → Option O_vote_Seen := fun a b => tree_vote_Seen a.1.1 a.1.2.1 a.2.1 some
theorem n_vote_Seen (x1 : Int) (x2 : Int) (x3 : Int) {α : Type} (K : O_vote_Seen → Option α) : tree_vote_Seen x1 x2 x3 K = (tree_vote_Seen x1 x2 x3 some).bind K := by simp only [tree_vote_Seen, bind_cond, bind_none', bind_some', bind_bind', bind_sum]
theorem Fe_vote_Seen (x1 : Int) (x2 : Int) (x3 : Int) : F_vote_Seen ((x1, (x2, ())), (x3, ())) () = tree_vote_Seen x1 x2 x3 some := rfl

/-! countersign/vote.Ask -/
def args_vote_Ask : SkL := (.cons (.agg (.cons (.leaf (.int .u64)) (.cons (.leaf (.int .u64)) .nil))) (.cons (.agg (.cons (.leaf (.int .u64)) (.cons (.leaf (.int .u64)) (.cons (.leaf (.slc 70 (.cons (.int .u64) (.cons (.int .i64) (.cons .str .nil))))) .nil)))) (.cons (.leaf (.int .u64)) (.cons (.leaf (.int .u64)) (.cons (.leaf (.int .u64)) (.cons (.leaf (.int .u64)) .nil))))))
def mem_vote_Ask : MSk := []
def outs_vote_Ask : List OutC := [⟨(.tup (.cons (.agg (.cons (.leaf (.int .u64)) (.cons (.leaf (.int .u64)) .nil))) (.cons (.leaf .bool) .nil))), []⟩]
abbrev A_vote_Ask : Type := ((Int × Int × Unit) × (Int × Int × (List (Int × Int × ByteArray)) × Unit) × Int × Int × Int × Int × Unit)
abbrev M_vote_Ask : Type := Unit
abbrev O_vote_Ask : Type := ((Int × Int × Unit) × Bool × Unit) × Unit
def tree_vote_Ask (F_vote_Seen : A_vote_Seen → M_vote_Seen → Option O_vote_Seen) (F_rlog_Newer : A_rlog_Newer → M_rlog_Newer → Option O_rlog_Newer) {α : Type} (x1 : Int) (x2 : Int) (x3 : Int) (x4 : Int) (x5 : List (Int × Int × ByteArray)) (x6 : Int) (x7 : Int) (x8 : Int) (x9 : Int) (K : O_vote_Ask → Option α) : Option α :=
 cond (decide (x6 < x1))
 (K (((x1, (x2, ())), (false, ())), ()))
 (cond (x7 == 18446744073709551615)
 (K (((x1, (x2, ())), (false, ())), ()))
 ((F_vote_Seen ((x1, x2, ()), x6, ()) ()).bind fun r1 =>
 cond (r1.fst.snd.fst != 0)
 (cond (r1.fst.snd.fst != IntKind.u64.wrap (x7 + 1))
 (K (((r1.fst.fst, (r1.fst.snd.fst, ())), (false, ())), ()))
 ((F_rlog_Newer ((x3, x4, x5, ()), x8, x9, ()) ()).bind fun r2 =>
 cond (!r2.fst)
 (K (((r1.fst.fst, (r1.fst.snd.fst, ())), (false, ())), ()))
 (K (((r1.fst.fst, (IntKind.u64.wrap (x7 + 1), ())), (true, ())), ()))))
 ((F_rlog_Newer ((x3, x4, x5, ()), x8, x9, ()) ()).bind fun r3 =>
 cond (!r3.fst)
 (K (((r1.fst.fst, (r1.fst.snd.fst, ())), (false, ())), ()))
 (K (((r1.fst.fst, (IntKind.u64.wrap (x7 + 1), ())), (true, ())), ())))))
noncomputable def F_vote_Ask : A_vote_Ask → M_vote_Ask → Option O_vote_Ask := fun a b => tree_vote_Ask F_vote_Seen F_rlog_Newer a.1.1 a.1.2.1 a.2.1.1 a.2.1.2.1 a.2.1.2.2.1 a.2.2.1 a.2.2.2.1 a.2.2.2.2.1 a.2.2.2.2.2.1 some
theorem n_vote_Ask (F_vote_Seen : A_vote_Seen → M_vote_Seen → Option O_vote_Seen) (F_rlog_Newer : A_rlog_Newer → M_rlog_Newer → Option O_rlog_Newer) (x1 : Int) (x2 : Int) (x3 : Int) (x4 : Int) (x5 : List (Int × Int × ByteArray)) (x6 : Int) (x7 : Int) (x8 : Int) (x9 : Int) {α : Type} (K : O_vote_Ask → Option α) : tree_vote_Ask F_vote_Seen F_rlog_Newer x1 x2 x3 x4 x5 x6 x7 x8 x9 K = (tree_vote_Ask F_vote_Seen F_rlog_Newer x1 x2 x3 x4 x5 x6 x7 x8 x9 some).bind K := by simp only [tree_vote_Ask, bind_cond, bind_none', bind_some', bind_bind', bind_sum]
theorem Fe_vote_Ask (x1 : Int) (x2 : Int) (x3 : Int) (x4 : Int) (x5 : List (Int × Int × ByteArray)) (x6 : Int) (x7 : Int) (x8 : Int) (x9 : Int) : F_vote_Ask ((x1, (x2, ())), ((x3, (x4, (x5, ()))), (x6, (x7, (x8, (x9, ())))))) () = tree_vote_Ask F_vote_Seen F_rlog_Newer x1 x2 x3 x4 x5 x6 x7 x8 x9 some := rfl

end Go.Proofs.Ytjhaidbfahobmaa.S2
