/- Plain forms of the program's functions, by program. -/
import Derived.Test.YtgakbdikappdbaaGsorta
set_option maxRecDepth 100000
set_option maxHeartbeats 0
set_option linter.unusedVariables false
set_option linter.unusedSimpArgs false
namespace Go.Proofs.Ytgakbdikappdbaa.S2
open Go
def args_slices_partitionEqualOrdered_uint64 : SkL := (.cons (.const (.slw 0)) (.cons (.leaf (.int .i64)) (.cons (.leaf (.int .i64)) (.cons (.leaf (.int .i64)) .nil))))
def mem_slices_partitionEqualOrdered_uint64 : MSk := [(0, .row 22 (.cons (.int .u64) .nil))]
def outs_slices_partitionEqualOrdered_uint64 : List OutC := [⟨(.leaf (.int .i64)), [(0, .row 22 (.cons (.int .u64) .nil))]⟩]
abbrev A_slices_partitionEqualOrdered_uint64 : Type := (Int × Int × Int × Unit)
abbrev M_slices_partitionEqualOrdered_uint64 : Type := (List Int × Unit)
abbrev O_slices_partitionEqualOrdered_uint64 : Type := Int × (List Int × Unit)
def ltmps_slices_partitionEqualOrdered_uint64_3 : SkL := (.cons (.const (.slw 0)) (.cons (.leaf (.int .i64)) (dz 7 (.cons (.leaf (.int .i64)) (.cons (.leaf (.int .i64)) (dz 73 .nil))))))
def lmem_slices_partitionEqualOrdered_uint64_3 : MSk := [(0, .row 22 (.cons (.int .u64) .nil))]
def louts_slices_partitionEqualOrdered_uint64_3 : List OutL := [⟨(.exit 2), (.cons (.const (.slw 0)) (.cons (.leaf (.int .i64)) (dz 7 (.cons (.leaf (.int .i64)) (.cons (.leaf (.int .i64)) (dz 73 .nil)))))), [(0, .row 22 (.cons (.int .u64) .nil))]⟩]
abbrev LT_slices_partitionEqualOrdered_uint64_3 : Type := (Int × Int × Int × Unit)
abbrev LM_slices_partitionEqualOrdered_uint64_3 : Type := (List Int × Unit)
abbrev LO_slices_partitionEqualOrdered_uint64_3 : Type := (Int × Int × Int × Unit) × (List Int × Unit)
def ltree_slices_partitionEqualOrdered_uint64_3 (F_cmp_Less_uint64 : A_cmp_Less_uint64 → M_cmp_Less_uint64 → Option O_cmp_Less_uint64) {α : Type} (x1 : Int) (x2 : Int) (x3 : Int) (x4 : List Int) (kn : LT_slices_partitionEqualOrdered_uint64_3 → LM_slices_partitionEqualOrdered_uint64_3 → Option α) (kr : LO_slices_partitionEqualOrdered_uint64_3 → Option α) : Option α :=
  cond (decide (x2 ≤ x3))
  (cond (decide (0 ≤ x1))
   (cond (decide (x1 < (↑x4.length : Int)))
    (cond (decide (0 ≤ x2))
     (cond (decide (x2 < (↑x4.length : Int)))
      ((F_cmp_Less_uint64 (x4.getD (0 + x1.toNat) 0, x4.getD (0 + x2.toNat) 0, ()) ()).bind fun r1 =>
       cond (!r1.fst)
       (kn (x1, (IntKind.i64.wrap (x2 + 1), (x3, ()))) (x4, ()))
       (kr ((x1, (x2, (x3, ()))), (x4, ()))))
      (none))
     (none))
    (none))
   (none))
  (kr ((x1, (x2, (x3, ()))), (x4, ())))
noncomputable def L_slices_partitionEqualOrdered_uint64_3 : LT_slices_partitionEqualOrdered_uint64_3 → LM_slices_partitionEqualOrdered_uint64_3 → Option LO_slices_partitionEqualOrdered_uint64_3 := fun x y => runL (fun p => (fun (a : LT_slices_partitionEqualOrdered_uint64_3) (b : LM_slices_partitionEqualOrdered_uint64_3) => ltree_slices_partitionEqualOrdered_uint64_3 F_cmp_Less_uint64 a.1 a.2.1 a.2.2.1 b.1 (fun a' b' => some (.inl (a', b'))) fun r => some (.inr r)) p.1 p.2) (x, y)
theorem nl_slices_partitionEqualOrdered_uint64_3 (F_cmp_Less_uint64 : A_cmp_Less_uint64 → M_cmp_Less_uint64 → Option O_cmp_Less_uint64) (x1 : Int) (x2 : Int) (x3 : Int) (x4 : List Int) {α : Type} (kn : LT_slices_partitionEqualOrdered_uint64_3 → LM_slices_partitionEqualOrdered_uint64_3 → Option α) (kr : LO_slices_partitionEqualOrdered_uint64_3 → Option α) : ltree_slices_partitionEqualOrdered_uint64_3 F_cmp_Less_uint64 x1 x2 x3 x4 kn kr = (ltree_slices_partitionEqualOrdered_uint64_3 F_cmp_Less_uint64 x1 x2 x3 x4 (fun a b => some (.inl (a, b))) fun r => some (.inr r)).bind (Sum.elim (fun p : LT_slices_partitionEqualOrdered_uint64_3 × LM_slices_partitionEqualOrdered_uint64_3 => kn p.1 p.2) kr) := by simp only [ltree_slices_partitionEqualOrdered_uint64_3, bind_cond, bind_none', bind_some', bind_bind', bind_sum, Sum.elim_inl, Sum.elim_inr]
theorem Le_slices_partitionEqualOrdered_uint64_3 (x1 : Int) (x2 : Int) (x3 : Int) (x4 : List Int) : L_slices_partitionEqualOrdered_uint64_3 (x1, (x2, (x3, ()))) (x4, ()) = ltree_slices_partitionEqualOrdered_uint64_3 F_cmp_Less_uint64 x1 x2 x3 x4 L_slices_partitionEqualOrdered_uint64_3 some := runL_tree (A := LT_slices_partitionEqualOrdered_uint64_3) (B := LM_slices_partitionEqualOrdered_uint64_3) (R := LO_slices_partitionEqualOrdered_uint64_3) (fun a b kn kr => ltree_slices_partitionEqualOrdered_uint64_3 F_cmp_Less_uint64 a.1 a.2.1 a.2.2.1 b.1 kn kr) (fun a b kn kr => nl_slices_partitionEqualOrdered_uint64_3 F_cmp_Less_uint64 a.1 a.2.1 a.2.2.1 b.1 kn kr) (x1, (x2, (x3, ()))) (x4, ())
def ltmps_slices_partitionEqualOrdered_uint64_5 : SkL := (.cons (.const (.slw 0)) (.cons (.leaf (.int .i64)) (dz 7 (.cons (.leaf (.int .i64)) (.cons (.leaf (.int .i64)) (dz 73 .nil))))))
def lmem_slices_partitionEqualOrdered_uint64_5 : MSk := [(0, .row 22 (.cons (.int .u64) .nil))]
def louts_slices_partitionEqualOrdered_uint64_5 : List OutL := [⟨(.exit 4), (.cons (.const (.slw 0)) (.cons (.leaf (.int .i64)) (dz 7 (.cons (.leaf (.int .i64)) (.cons (.leaf (.int .i64)) (dz 73 .nil)))))), [(0, .row 22 (.cons (.int .u64) .nil))]⟩]
abbrev LT_slices_partitionEqualOrdered_uint64_5 : Type := (Int × Int × Int × Unit)
abbrev LM_slices_partitionEqualOrdered_uint64_5 : Type := (List Int × Unit)
abbrev LO_slices_partitionEqualOrdered_uint64_5 : Type := (Int × Int × Int × Unit) × (List Int × Unit)
def ltree_slices_partitionEqualOrdered_uint64_5 (F_cmp_Less_uint64 : A_cmp_Less_uint64 → M_cmp_Less_uint64 → Option O_cmp_Less_uint64) {α : Type} (x1 : Int) (x2 : Int) (x3 : Int) (x4 : List Int) (kn : LT_slices_partitionEqualOrdered_uint64_5 → LM_slices_partitionEqualOrdered_uint64_5 → Option α) (kr : LO_slices_partitionEqualOrdered_uint64_5 → Option α) : Option α :=
  cond (decide (x2 ≤ x3))
  (cond (decide (0 ≤ x1))
   (cond (decide (x1 < (↑x4.length : Int)))
    (cond (decide (0 ≤ x3))
     (cond (decide (x3 < (↑x4.length : Int)))
      ((F_cmp_Less_uint64 (x4.getD (0 + x1.toNat) 0, x4.getD (0 + x3.toNat) 0, ()) ()).bind fun r1 =>
       cond (r1.fst)
       (kn (x1, (x2, (IntKind.i64.wrap (x3 - 1), ()))) (x4, ()))
       (kr ((x1, (x2, (x3, ()))), (x4, ()))))
      (none))
     (none))
    (none))
   (none))
  (kr ((x1, (x2, (x3, ()))), (x4, ())))
noncomputable def L_slices_partitionEqualOrdered_uint64_5 : LT_slices_partitionEqualOrdered_uint64_5 → LM_slices_partitionEqualOrdered_uint64_5 → Option LO_slices_partitionEqualOrdered_uint64_5 := fun x y => runL (fun p => (fun (a : LT_slices_partitionEqualOrdered_uint64_5) (b : LM_slices_partitionEqualOrdered_uint64_5) => ltree_slices_partitionEqualOrdered_uint64_5 F_cmp_Less_uint64 a.1 a.2.1 a.2.2.1 b.1 (fun a' b' => some (.inl (a', b'))) fun r => some (.inr r)) p.1 p.2) (x, y)
theorem nl_slices_partitionEqualOrdered_uint64_5 (F_cmp_Less_uint64 : A_cmp_Less_uint64 → M_cmp_Less_uint64 → Option O_cmp_Less_uint64) (x1 : Int) (x2 : Int) (x3 : Int) (x4 : List Int) {α : Type} (kn : LT_slices_partitionEqualOrdered_uint64_5 → LM_slices_partitionEqualOrdered_uint64_5 → Option α) (kr : LO_slices_partitionEqualOrdered_uint64_5 → Option α) : ltree_slices_partitionEqualOrdered_uint64_5 F_cmp_Less_uint64 x1 x2 x3 x4 kn kr = (ltree_slices_partitionEqualOrdered_uint64_5 F_cmp_Less_uint64 x1 x2 x3 x4 (fun a b => some (.inl (a, b))) fun r => some (.inr r)).bind (Sum.elim (fun p : LT_slices_partitionEqualOrdered_uint64_5 × LM_slices_partitionEqualOrdered_uint64_5 => kn p.1 p.2) kr) := by simp only [ltree_slices_partitionEqualOrdered_uint64_5, bind_cond, bind_none', bind_some', bind_bind', bind_sum, Sum.elim_inl, Sum.elim_inr]
theorem Le_slices_partitionEqualOrdered_uint64_5 (x1 : Int) (x2 : Int) (x3 : Int) (x4 : List Int) : L_slices_partitionEqualOrdered_uint64_5 (x1, (x2, (x3, ()))) (x4, ()) = ltree_slices_partitionEqualOrdered_uint64_5 F_cmp_Less_uint64 x1 x2 x3 x4 L_slices_partitionEqualOrdered_uint64_5 some := runL_tree (A := LT_slices_partitionEqualOrdered_uint64_5) (B := LM_slices_partitionEqualOrdered_uint64_5) (R := LO_slices_partitionEqualOrdered_uint64_5) (fun a b kn kr => ltree_slices_partitionEqualOrdered_uint64_5 F_cmp_Less_uint64 a.1 a.2.1 a.2.2.1 b.1 kn kr) (fun a b kn kr => nl_slices_partitionEqualOrdered_uint64_5 F_cmp_Less_uint64 a.1 a.2.1 a.2.2.1 b.1 kn kr) (x1, (x2, (x3, ()))) (x4, ())
def ltmps_slices_partitionEqualOrdered_uint64_5003 : SkL := (.cons (.const (.slw 0)) (.cons (.leaf (.int .i64)) (dz 7 (.cons (.leaf (.int .i64)) (.cons (.leaf (.int .i64)) (dz 73 .nil))))))
def lmem_slices_partitionEqualOrdered_uint64_5003 : MSk := [(0, .row 22 (.cons (.int .u64) .nil))]
def louts_slices_partitionEqualOrdered_uint64_5003 : List OutL := [⟨(.exit 0), (dz 9 (.cons (.leaf (.int .i64)) (dz 74 .nil))), [(0, .row 22 (.cons (.int .u64) .nil))]⟩]
abbrev LT_slices_partitionEqualOrdered_uint64_5003 : Type := (Int × Int × Int × Unit)
abbrev LM_slices_partitionEqualOrdered_uint64_5003 : Type := (List Int × Unit)
abbrev LO_slices_partitionEqualOrdered_uint64_5003 : Type := (Int × Unit) × (List Int × Unit)
def ltree_slices_partitionEqualOrdered_uint64_5003 (L_slices_partitionEqualOrdered_uint64_3 : LT_slices_partitionEqualOrdered_uint64_3 → LM_slices_partitionEqualOrdered_uint64_3 → Option LO_slices_partitionEqualOrdered_uint64_3) (L_slices_partitionEqualOrdered_uint64_5 : LT_slices_partitionEqualOrdered_uint64_5 → LM_slices_partitionEqualOrdered_uint64_5 → Option LO_slices_partitionEqualOrdered_uint64_5) {α : Type} (x1 : Int) (x2 : Int) (x3 : Int) (x4 : List Int) (kn : LT_slices_partitionEqualOrdered_uint64_5003 → LM_slices_partitionEqualOrdered_uint64_5003 → Option α) (kr : LO_slices_partitionEqualOrdered_uint64_5003 → Option α) : Option α :=
  (L_slices_partitionEqualOrdered_uint64_3 (x1, x2, x3, ()) (x4, ())).bind fun r1 =>
  (L_slices_partitionEqualOrdered_uint64_5 (r1.fst.fst, r1.fst.snd.fst, r1.fst.snd.snd.fst, ()) (r1.snd.fst, ())).bind fun r2 =>
  cond (decide (r2.fst.snd.fst > r2.fst.snd.snd.fst))
  (kr ((r2.fst.snd.fst, ()), (r2.snd.fst, ())))
  (cond (decide (0 ≤ r2.fst.snd.snd.fst))
   (cond (decide (r2.fst.snd.snd.fst < (↑r2.snd.fst.length : Int)))
    (cond (decide (0 ≤ r2.fst.snd.fst))
     (cond (decide (r2.fst.snd.fst < (↑r2.snd.fst.length : Int)))
      (cond (decide (0 ≤ r2.fst.snd.fst))
       (cond (decide (r2.fst.snd.fst < (↑r2.snd.fst.length : Int)))
        (cond (decide (0 ≤ r2.fst.snd.snd.fst))
         (cond (decide   (r2.fst.snd.snd.fst <     (↑(r2.snd.fst.set (0 + r2.fst.snd.fst.toNat) (r2.snd.fst.getD (0 + r2.fst.snd.snd.fst.toNat) 0)).length : Int)))
          (kn (r2.fst.fst, (IntKind.i64.wrap (r2.fst.snd.fst + 1), (IntKind.i64.wrap (r2.fst.snd.snd.fst - 1), ()))) ((r2.snd.fst.set (0 + r2.fst.snd.fst.toNat) (r2.snd.fst.getD (0 + r2.fst.snd.snd.fst.toNat) 0)).set   (0 + r2.fst.snd.snd.fst.toNat) (r2.snd.fst.getD (0 + r2.fst.snd.fst.toNat) 0), ()))
          (none))
         (none))
        (none))
       (none))
      (none))
     (none))
    (none))
   (none))
noncomputable def L_slices_partitionEqualOrdered_uint64_5003 : LT_slices_partitionEqualOrdered_uint64_5003 → LM_slices_partitionEqualOrdered_uint64_5003 → Option LO_slices_partitionEqualOrdered_uint64_5003 := fun x y => runL (fun p => (fun (a : LT_slices_partitionEqualOrdered_uint64_5003) (b : LM_slices_partitionEqualOrdered_uint64_5003) => ltree_slices_partitionEqualOrdered_uint64_5003 L_slices_partitionEqualOrdered_uint64_3 L_slices_partitionEqualOrdered_uint64_5 a.1 a.2.1 a.2.2.1 b.1 (fun a' b' => some (.inl (a', b'))) fun r => some (.inr r)) p.1 p.2) (x, y)
theorem nl_slices_partitionEqualOrdered_uint64_5003 (L_slices_partitionEqualOrdered_uint64_3 : LT_slices_partitionEqualOrdered_uint64_3 → LM_slices_partitionEqualOrdered_uint64_3 → Option LO_slices_partitionEqualOrdered_uint64_3) (L_slices_partitionEqualOrdered_uint64_5 : LT_slices_partitionEqualOrdered_uint64_5 → LM_slices_partitionEqualOrdered_uint64_5 → Option LO_slices_partitionEqualOrdered_uint64_5) (x1 : Int) (x2 : Int) (x3 : Int) (x4 : List Int) {α : Type} (kn : LT_slices_partitionEqualOrdered_uint64_5003 → LM_slices_partitionEqualOrdered_uint64_5003 → Option α) (kr : LO_slices_partitionEqualOrdered_uint64_5003 → Option α) : ltree_slices_partitionEqualOrdered_uint64_5003 L_slices_partitionEqualOrdered_uint64_3 L_slices_partitionEqualOrdered_uint64_5 x1 x2 x3 x4 kn kr = (ltree_slices_partitionEqualOrdered_uint64_5003 L_slices_partitionEqualOrdered_uint64_3 L_slices_partitionEqualOrdered_uint64_5 x1 x2 x3 x4 (fun a b => some (.inl (a, b))) fun r => some (.inr r)).bind (Sum.elim (fun p : LT_slices_partitionEqualOrdered_uint64_5003 × LM_slices_partitionEqualOrdered_uint64_5003 => kn p.1 p.2) kr) := by simp only [ltree_slices_partitionEqualOrdered_uint64_5003, bind_cond, bind_none', bind_some', bind_bind', bind_sum, Sum.elim_inl, Sum.elim_inr]
theorem Le_slices_partitionEqualOrdered_uint64_5003 (x1 : Int) (x2 : Int) (x3 : Int) (x4 : List Int) : L_slices_partitionEqualOrdered_uint64_5003 (x1, (x2, (x3, ()))) (x4, ()) = ltree_slices_partitionEqualOrdered_uint64_5003 L_slices_partitionEqualOrdered_uint64_3 L_slices_partitionEqualOrdered_uint64_5 x1 x2 x3 x4 L_slices_partitionEqualOrdered_uint64_5003 some := runL_tree (A := LT_slices_partitionEqualOrdered_uint64_5003) (B := LM_slices_partitionEqualOrdered_uint64_5003) (R := LO_slices_partitionEqualOrdered_uint64_5003) (fun a b kn kr => ltree_slices_partitionEqualOrdered_uint64_5003 L_slices_partitionEqualOrdered_uint64_3 L_slices_partitionEqualOrdered_uint64_5 a.1 a.2.1 a.2.2.1 b.1 kn kr) (fun a b kn kr => nl_slices_partitionEqualOrdered_uint64_5003 L_slices_partitionEqualOrdered_uint64_3 L_slices_partitionEqualOrdered_uint64_5 a.1 a.2.1 a.2.2.1 b.1 kn kr) (x1, (x2, (x3, ()))) (x4, ())
def tree_slices_partitionEqualOrdered_uint64 (L_slices_partitionEqualOrdered_uint64_5003 : LT_slices_partitionEqualOrdered_uint64_5003 → LM_slices_partitionEqualOrdered_uint64_5003 → Option LO_slices_partitionEqualOrdered_uint64_5003) {α : Type} (x1 : Int) (x2 : Int) (x3 : Int) (x4 : List Int) (K : O_slices_partitionEqualOrdered_uint64 → Option α) : Option α :=
  cond (decide (0 ≤ x3))
  (cond (decide (x3 < (↑x4.length : Int)))
   (cond (decide (0 ≤ x1))
    (cond (decide (x1 < (↑x4.length : Int)))
     (cond (decide (0 ≤ x1))
      (cond (decide (x1 < (↑x4.length : Int)))
       (cond (decide (0 ≤ x3))
        (cond (decide (x3 < (↑(x4.set (0 + x1.toNat) (x4.getD (0 + x3.toNat) 0)).length : Int)))
         ((L_slices_partitionEqualOrdered_uint64_5003 (x1, IntKind.i64.wrap (x1 + 1), IntKind.i64.wrap (x2 - 1), ())   ((x4.set (0 + x1.toNat) (x4.getD (0 + x3.toNat) 0)).set (0 + x3.toNat) (x4.getD (0 + x1.toNat) 0), ())).bind fun r1 =>
          K (r1.fst.fst, (r1.snd.fst, ())))
         (none))
        (none))
       (none))
      (none))
     (none))
    (none))
   (none))
  (none)
noncomputable def F_slices_partitionEqualOrdered_uint64 : A_slices_partitionEqualOrdered_uint64 → M_slices_partitionEqualOrdered_uint64 → Option O_slices_partitionEqualOrdered_uint64 := fun a b => tree_slices_partitionEqualOrdered_uint64 L_slices_partitionEqualOrdered_uint64_5003 a.1 a.2.1 a.2.2.1 b.1 some
theorem n_slices_partitionEqualOrdered_uint64 (L_slices_partitionEqualOrdered_uint64_5003 : LT_slices_partitionEqualOrdered_uint64_5003 → LM_slices_partitionEqualOrdered_uint64_5003 → Option LO_slices_partitionEqualOrdered_uint64_5003) (x1 : Int) (x2 : Int) (x3 : Int) (x4 : List Int) {α : Type} (K : O_slices_partitionEqualOrdered_uint64 → Option α) : tree_slices_partitionEqualOrdered_uint64 L_slices_partitionEqualOrdered_uint64_5003 x1 x2 x3 x4 K = (tree_slices_partitionEqualOrdered_uint64 L_slices_partitionEqualOrdered_uint64_5003 x1 x2 x3 x4 some).bind K := by simp only [tree_slices_partitionEqualOrdered_uint64, bind_cond, bind_none', bind_some', bind_bind', bind_sum]
theorem Fe_slices_partitionEqualOrdered_uint64 (x1 : Int) (x2 : Int) (x3 : Int) (x4 : List Int) : F_slices_partitionEqualOrdered_uint64 (x1, (x2, (x3, ()))) (x4, ()) = tree_slices_partitionEqualOrdered_uint64 L_slices_partitionEqualOrdered_uint64_5003 x1 x2 x3 x4 some := rfl
def args_slices_partitionOrdered_uint64 : SkL := (.cons (.const (.slw 0)) (.cons (.leaf (.int .i64)) (.cons (.leaf (.int .i64)) (.cons (.leaf (.int .i64)) .nil))))
def mem_slices_partitionOrdered_uint64 : MSk := [(0, .row 22 (.cons (.int .u64) .nil))]
def outs_slices_partitionOrdered_uint64 : List OutC := [⟨(.tup (.cons (.leaf (.int .i64)) (.cons (.leaf .bool) .nil))), [(0, .row 22 (.cons (.int .u64) .nil))]⟩]
abbrev A_slices_partitionOrdered_uint64 : Type := (Int × Int × Int × Unit)
abbrev M_slices_partitionOrdered_uint64 : Type := (List Int × Unit)
abbrev O_slices_partitionOrdered_uint64 : Type := (Int × Bool × Unit) × (List Int × Unit)
def ltmps_slices_partitionOrdered_uint64_3 : SkL := (.cons (.const (.slw 0)) (.cons (.leaf (.int .i64)) (dz 8 (.cons (.leaf (.int .i64)) (.cons (.leaf (.int .i64)) (dz 156 .nil))))))
def lmem_slices_partitionOrdered_uint64_3 : MSk := [(0, .row 22 (.cons (.int .u64) .nil))]
def louts_slices_partitionOrdered_uint64_3 : List OutL := [⟨(.exit 0), (.cons (.const (.slw 0)) (.cons (.leaf (.int .i64)) (dz 8 (.cons (.leaf (.int .i64)) (.cons (.leaf (.int .i64)) (dz 156 .nil)))))), [(0, .row 22 (.cons (.int .u64) .nil))]⟩]
abbrev LT_slices_partitionOrdered_uint64_3 : Type := (Int × Int × Int × Unit)
abbrev LM_slices_partitionOrdered_uint64_3 : Type := (List Int × Unit)
abbrev LO_slices_partitionOrdered_uint64_3 : Type := (Int × Int × Int × Unit) × (List Int × Unit)
def ltree_slices_partitionOrdered_uint64_3 (F_cmp_Less_uint64 : A_cmp_Less_uint64 → M_cmp_Less_uint64 → Option O_cmp_Less_uint64) {α : Type} (x1 : Int) (x2 : Int) (x3 : Int) (x4 : List Int) (kn : LT_slices_partitionOrdered_uint64_3 → LM_slices_partitionOrdered_uint64_3 → Option α) (kr : LO_slices_partitionOrdered_uint64_3 → Option α) : Option α :=
  cond (decide (x2 ≤ x3))
  (cond (decide (0 ≤ x2))
   (cond (decide (x2 < (↑x4.length : Int)))
    (cond (decide (0 ≤ x1))
     (cond (decide (x1 < (↑x4.length : Int)))
      ((F_cmp_Less_uint64 (x4.getD (0 + x2.toNat) 0, x4.getD (0 + x1.toNat) 0, ()) ()).bind fun r1 =>
       cond (r1.fst)
       (kn (x1, (IntKind.i64.wrap (x2 + 1), (x3, ()))) (x4, ()))
       (kr ((x1, (x2, (x3, ()))), (x4, ()))))
      (none))
     (none))
    (none))
   (none))
  (kr ((x1, (x2, (x3, ()))), (x4, ())))
noncomputable def L_slices_partitionOrdered_uint64_3 : LT_slices_partitionOrdered_uint64_3 → LM_slices_partitionOrdered_uint64_3 → Option LO_slices_partitionOrdered_uint64_3 := fun x y => runL (fun p => (fun (a : LT_slices_partitionOrdered_uint64_3) (b : LM_slices_partitionOrdered_uint64_3) => ltree_slices_partitionOrdered_uint64_3 F_cmp_Less_uint64 a.1 a.2.1 a.2.2.1 b.1 (fun a' b' => some (.inl (a', b'))) fun r => some (.inr r)) p.1 p.2) (x, y)
theorem nl_slices_partitionOrdered_uint64_3 (F_cmp_Less_uint64 : A_cmp_Less_uint64 → M_cmp_Less_uint64 → Option O_cmp_Less_uint64) (x1 : Int) (x2 : Int) (x3 : Int) (x4 : List Int) {α : Type} (kn : LT_slices_partitionOrdered_uint64_3 → LM_slices_partitionOrdered_uint64_3 → Option α) (kr : LO_slices_partitionOrdered_uint64_3 → Option α) : ltree_slices_partitionOrdered_uint64_3 F_cmp_Less_uint64 x1 x2 x3 x4 kn kr = (ltree_slices_partitionOrdered_uint64_3 F_cmp_Less_uint64 x1 x2 x3 x4 (fun a b => some (.inl (a, b))) fun r => some (.inr r)).bind (Sum.elim (fun p : LT_slices_partitionOrdered_uint64_3 × LM_slices_partitionOrdered_uint64_3 => kn p.1 p.2) kr) := by simp only [ltree_slices_partitionOrdered_uint64_3, bind_cond, bind_none', bind_some', bind_bind', bind_sum, Sum.elim_inl, Sum.elim_inr]
theorem Le_slices_partitionOrdered_uint64_3 (x1 : Int) (x2 : Int) (x3 : Int) (x4 : List Int) : L_slices_partitionOrdered_uint64_3 (x1, (x2, (x3, ()))) (x4, ()) = ltree_slices_partitionOrdered_uint64_3 F_cmp_Less_uint64 x1 x2 x3 x4 L_slices_partitionOrdered_uint64_3 some := runL_tree (A := LT_slices_partitionOrdered_uint64_3) (B := LM_slices_partitionOrdered_uint64_3) (R := LO_slices_partitionOrdered_uint64_3) (fun a b kn kr => ltree_slices_partitionOrdered_uint64_3 F_cmp_Less_uint64 a.1 a.2.1 a.2.2.1 b.1 kn kr) (fun a b kn kr => nl_slices_partitionOrdered_uint64_3 F_cmp_Less_uint64 a.1 a.2.1 a.2.2.1 b.1 kn kr) (x1, (x2, (x3, ()))) (x4, ())
def ltmps_slices_partitionOrdered_uint64_5 : SkL := (.cons (.const (.slw 0)) (.cons (.leaf (.int .i64)) (dz 8 (.cons (.leaf (.int .i64)) (.cons (.leaf (.int .i64)) (dz 156 .nil))))))
def lmem_slices_partitionOrdered_uint64_5 : MSk := [(0, .row 22 (.cons (.int .u64) .nil))]
def louts_slices_partitionOrdered_uint64_5 : List OutL := [⟨(.exit 2), (.cons (.const (.slw 0)) (.cons (.leaf (.int .i64)) (dz 8 (.cons (.leaf (.int .i64)) (.cons (.leaf (.int .i64)) (dz 156 .nil)))))), [(0, .row 22 (.cons (.int .u64) .nil))]⟩]
abbrev LT_slices_partitionOrdered_uint64_5 : Type := (Int × Int × Int × Unit)
abbrev LM_slices_partitionOrdered_uint64_5 : Type := (List Int × Unit)
abbrev LO_slices_partitionOrdered_uint64_5 : Type := (Int × Int × Int × Unit) × (List Int × Unit)
def ltree_slices_partitionOrdered_uint64_5 (F_cmp_Less_uint64 : A_cmp_Less_uint64 → M_cmp_Less_uint64 → Option O_cmp_Less_uint64) {α : Type} (x1 : Int) (x2 : Int) (x3 : Int) (x4 : List Int) (kn : LT_slices_partitionOrdered_uint64_5 → LM_slices_partitionOrdered_uint64_5 → Option α) (kr : LO_slices_partitionOrdered_uint64_5 → Option α) : Option α :=
  cond (decide (x2 ≤ x3))
  (cond (decide (0 ≤ x3))
   (cond (decide (x3 < (↑x4.length : Int)))
    (cond (decide (0 ≤ x1))
     (cond (decide (x1 < (↑x4.length : Int)))
      ((F_cmp_Less_uint64 (x4.getD (0 + x3.toNat) 0, x4.getD (0 + x1.toNat) 0, ()) ()).bind fun r1 =>
       cond (!r1.fst)
       (kn (x1, (x2, (IntKind.i64.wrap (x3 - 1), ()))) (x4, ()))
       (kr ((x1, (x2, (x3, ()))), (x4, ()))))
      (none))
     (none))
    (none))
   (none))
  (kr ((x1, (x2, (x3, ()))), (x4, ())))
noncomputable def L_slices_partitionOrdered_uint64_5 : LT_slices_partitionOrdered_uint64_5 → LM_slices_partitionOrdered_uint64_5 → Option LO_slices_partitionOrdered_uint64_5 := fun x y => runL (fun p => (fun (a : LT_slices_partitionOrdered_uint64_5) (b : LM_slices_partitionOrdered_uint64_5) => ltree_slices_partitionOrdered_uint64_5 F_cmp_Less_uint64 a.1 a.2.1 a.2.2.1 b.1 (fun a' b' => some (.inl (a', b'))) fun r => some (.inr r)) p.1 p.2) (x, y)
theorem nl_slices_partitionOrdered_uint64_5 (F_cmp_Less_uint64 : A_cmp_Less_uint64 → M_cmp_Less_uint64 → Option O_cmp_Less_uint64) (x1 : Int) (x2 : Int) (x3 : Int) (x4 : List Int) {α : Type} (kn : LT_slices_partitionOrdered_uint64_5 → LM_slices_partitionOrdered_uint64_5 → Option α) (kr : LO_slices_partitionOrdered_uint64_5 → Option α) : ltree_slices_partitionOrdered_uint64_5 F_cmp_Less_uint64 x1 x2 x3 x4 kn kr = (ltree_slices_partitionOrdered_uint64_5 F_cmp_Less_uint64 x1 x2 x3 x4 (fun a b => some (.inl (a, b))) fun r => some (.inr r)).bind (Sum.elim (fun p : LT_slices_partitionOrdered_uint64_5 × LM_slices_partitionOrdered_uint64_5 => kn p.1 p.2) kr) := by simp only [ltree_slices_partitionOrdered_uint64_5, bind_cond, bind_none', bind_some', bind_bind', bind_sum, Sum.elim_inl, Sum.elim_inr]
theorem Le_slices_partitionOrdered_uint64_5 (x1 : Int) (x2 : Int) (x3 : Int) (x4 : List Int) : L_slices_partitionOrdered_uint64_5 (x1, (x2, (x3, ()))) (x4, ()) = ltree_slices_partitionOrdered_uint64_5 F_cmp_Less_uint64 x1 x2 x3 x4 L_slices_partitionOrdered_uint64_5 some := runL_tree (A := LT_slices_partitionOrdered_uint64_5) (B := LM_slices_partitionOrdered_uint64_5) (R := LO_slices_partitionOrdered_uint64_5) (fun a b kn kr => ltree_slices_partitionOrdered_uint64_5 F_cmp_Less_uint64 a.1 a.2.1 a.2.2.1 b.1 kn kr) (fun a b kn kr => nl_slices_partitionOrdered_uint64_5 F_cmp_Less_uint64 a.1 a.2.1 a.2.2.1 b.1 kn kr) (x1, (x2, (x3, ()))) (x4, ())
def ltmps_slices_partitionOrdered_uint64_13 : SkL := (.cons (.const (.slw 0)) (.cons (.leaf (.int .i64)) (dz 8 (.cons (.leaf (.int .i64)) (.cons (.leaf (.int .i64)) (dz 156 .nil))))))
def lmem_slices_partitionOrdered_uint64_13 : MSk := [(0, .row 22 (.cons (.int .u64) .nil))]
def louts_slices_partitionOrdered_uint64_13 : List OutL := [⟨(.exit 6), (.cons (.const (.slw 0)) (.cons (.leaf (.int .i64)) (dz 8 (.cons (.leaf (.int .i64)) (.cons (.leaf (.int .i64)) (dz 156 .nil)))))), [(0, .row 22 (.cons (.int .u64) .nil))]⟩]
abbrev LT_slices_partitionOrdered_uint64_13 : Type := (Int × Int × Int × Unit)
abbrev LM_slices_partitionOrdered_uint64_13 : Type := (List Int × Unit)
abbrev LO_slices_partitionOrdered_uint64_13 : Type := (Int × Int × Int × Unit) × (List Int × Unit)
def ltree_slices_partitionOrdered_uint64_13 (F_cmp_Less_uint64 : A_cmp_Less_uint64 → M_cmp_Less_uint64 → Option O_cmp_Less_uint64) {α : Type} (x1 : Int) (x2 : Int) (x3 : Int) (x4 : List Int) (kn : LT_slices_partitionOrdered_uint64_13 → LM_slices_partitionOrdered_uint64_13 → Option α) (kr : LO_slices_partitionOrdered_uint64_13 → Option α) : Option α :=
  cond (decide (x2 ≤ x3))
  (cond (decide (0 ≤ x2))
   (cond (decide (x2 < (↑x4.length : Int)))
    (cond (decide (0 ≤ x1))
     (cond (decide (x1 < (↑x4.length : Int)))
      ((F_cmp_Less_uint64 (x4.getD (0 + x2.toNat) 0, x4.getD (0 + x1.toNat) 0, ()) ()).bind fun r1 =>
       cond (r1.fst)
       (kn (x1, (IntKind.i64.wrap (x2 + 1), (x3, ()))) (x4, ()))
       (kr ((x1, (x2, (x3, ()))), (x4, ()))))
      (none))
     (none))
    (none))
   (none))
  (kr ((x1, (x2, (x3, ()))), (x4, ())))
noncomputable def L_slices_partitionOrdered_uint64_13 : LT_slices_partitionOrdered_uint64_13 → LM_slices_partitionOrdered_uint64_13 → Option LO_slices_partitionOrdered_uint64_13 := fun x y => runL (fun p => (fun (a : LT_slices_partitionOrdered_uint64_13) (b : LM_slices_partitionOrdered_uint64_13) => ltree_slices_partitionOrdered_uint64_13 F_cmp_Less_uint64 a.1 a.2.1 a.2.2.1 b.1 (fun a' b' => some (.inl (a', b'))) fun r => some (.inr r)) p.1 p.2) (x, y)
theorem nl_slices_partitionOrdered_uint64_13 (F_cmp_Less_uint64 : A_cmp_Less_uint64 → M_cmp_Less_uint64 → Option O_cmp_Less_uint64) (x1 : Int) (x2 : Int) (x3 : Int) (x4 : List Int) {α : Type} (kn : LT_slices_partitionOrdered_uint64_13 → LM_slices_partitionOrdered_uint64_13 → Option α) (kr : LO_slices_partitionOrdered_uint64_13 → Option α) : ltree_slices_partitionOrdered_uint64_13 F_cmp_Less_uint64 x1 x2 x3 x4 kn kr = (ltree_slices_partitionOrdered_uint64_13 F_cmp_Less_uint64 x1 x2 x3 x4 (fun a b => some (.inl (a, b))) fun r => some (.inr r)).bind (Sum.elim (fun p : LT_slices_partitionOrdered_uint64_13 × LM_slices_partitionOrdered_uint64_13 => kn p.1 p.2) kr) := by simp only [ltree_slices_partitionOrdered_uint64_13, bind_cond, bind_none', bind_some', bind_bind', bind_sum, Sum.elim_inl, Sum.elim_inr]
theorem Le_slices_partitionOrdered_uint64_13 (x1 : Int) (x2 : Int) (x3 : Int) (x4 : List Int) : L_slices_partitionOrdered_uint64_13 (x1, (x2, (x3, ()))) (x4, ()) = ltree_slices_partitionOrdered_uint64_13 F_cmp_Less_uint64 x1 x2 x3 x4 L_slices_partitionOrdered_uint64_13 some := runL_tree (A := LT_slices_partitionOrdered_uint64_13) (B := LM_slices_partitionOrdered_uint64_13) (R := LO_slices_partitionOrdered_uint64_13) (fun a b kn kr => ltree_slices_partitionOrdered_uint64_13 F_cmp_Less_uint64 a.1 a.2.1 a.2.2.1 b.1 kn kr) (fun a b kn kr => nl_slices_partitionOrdered_uint64_13 F_cmp_Less_uint64 a.1 a.2.1 a.2.2.1 b.1 kn kr) (x1, (x2, (x3, ()))) (x4, ())
def ltmps_slices_partitionOrdered_uint64_15 : SkL := (.cons (.const (.slw 0)) (.cons (.leaf (.int .i64)) (dz 8 (.cons (.leaf (.int .i64)) (.cons (.leaf (.int .i64)) (dz 156 .nil))))))
def lmem_slices_partitionOrdered_uint64_15 : MSk := [(0, .row 22 (.cons (.int .u64) .nil))]
def louts_slices_partitionOrdered_uint64_15 : List OutL := [⟨(.exit 8), (.cons (.const (.slw 0)) (.cons (.leaf (.int .i64)) (dz 8 (.cons (.leaf (.int .i64)) (.cons (.leaf (.int .i64)) (dz 156 .nil)))))), [(0, .row 22 (.cons (.int .u64) .nil))]⟩]
abbrev LT_slices_partitionOrdered_uint64_15 : Type := (Int × Int × Int × Unit)
abbrev LM_slices_partitionOrdered_uint64_15 : Type := (List Int × Unit)
abbrev LO_slices_partitionOrdered_uint64_15 : Type := (Int × Int × Int × Unit) × (List Int × Unit)
def ltree_slices_partitionOrdered_uint64_15 (F_cmp_Less_uint64 : A_cmp_Less_uint64 → M_cmp_Less_uint64 → Option O_cmp_Less_uint64) {α : Type} (x1 : Int) (x2 : Int) (x3 : Int) (x4 : List Int) (kn : LT_slices_partitionOrdered_uint64_15 → LM_slices_partitionOrdered_uint64_15 → Option α) (kr : LO_slices_partitionOrdered_uint64_15 → Option α) : Option α :=
  cond (decide (x2 ≤ x3))
  (cond (decide (0 ≤ x3))
   (cond (decide (x3 < (↑x4.length : Int)))
    (cond (decide (0 ≤ x1))
     (cond (decide (x1 < (↑x4.length : Int)))
      ((F_cmp_Less_uint64 (x4.getD (0 + x3.toNat) 0, x4.getD (0 + x1.toNat) 0, ()) ()).bind fun r1 =>
       cond (!r1.fst)
       (kn (x1, (x2, (IntKind.i64.wrap (x3 - 1), ()))) (x4, ()))
       (kr ((x1, (x2, (x3, ()))), (x4, ()))))
      (none))
     (none))
    (none))
   (none))
  (kr ((x1, (x2, (x3, ()))), (x4, ())))
noncomputable def L_slices_partitionOrdered_uint64_15 : LT_slices_partitionOrdered_uint64_15 → LM_slices_partitionOrdered_uint64_15 → Option LO_slices_partitionOrdered_uint64_15 := fun x y => runL (fun p => (fun (a : LT_slices_partitionOrdered_uint64_15) (b : LM_slices_partitionOrdered_uint64_15) => ltree_slices_partitionOrdered_uint64_15 F_cmp_Less_uint64 a.1 a.2.1 a.2.2.1 b.1 (fun a' b' => some (.inl (a', b'))) fun r => some (.inr r)) p.1 p.2) (x, y)
theorem nl_slices_partitionOrdered_uint64_15 (F_cmp_Less_uint64 : A_cmp_Less_uint64 → M_cmp_Less_uint64 → Option O_cmp_Less_uint64) (x1 : Int) (x2 : Int) (x3 : Int) (x4 : List Int) {α : Type} (kn : LT_slices_partitionOrdered_uint64_15 → LM_slices_partitionOrdered_uint64_15 → Option α) (kr : LO_slices_partitionOrdered_uint64_15 → Option α) : ltree_slices_partitionOrdered_uint64_15 F_cmp_Less_uint64 x1 x2 x3 x4 kn kr = (ltree_slices_partitionOrdered_uint64_15 F_cmp_Less_uint64 x1 x2 x3 x4 (fun a b => some (.inl (a, b))) fun r => some (.inr r)).bind (Sum.elim (fun p : LT_slices_partitionOrdered_uint64_15 × LM_slices_partitionOrdered_uint64_15 => kn p.1 p.2) kr) := by simp only [ltree_slices_partitionOrdered_uint64_15, bind_cond, bind_none', bind_some', bind_bind', bind_sum, Sum.elim_inl, Sum.elim_inr]
theorem Le_slices_partitionOrdered_uint64_15 (x1 : Int) (x2 : Int) (x3 : Int) (x4 : List Int) : L_slices_partitionOrdered_uint64_15 (x1, (x2, (x3, ()))) (x4, ()) = ltree_slices_partitionOrdered_uint64_15 F_cmp_Less_uint64 x1 x2 x3 x4 L_slices_partitionOrdered_uint64_15 some := runL_tree (A := LT_slices_partitionOrdered_uint64_15) (B := LM_slices_partitionOrdered_uint64_15) (R := LO_slices_partitionOrdered_uint64_15) (fun a b kn kr => ltree_slices_partitionOrdered_uint64_15 F_cmp_Less_uint64 a.1 a.2.1 a.2.2.1 b.1 kn kr) (fun a b kn kr => nl_slices_partitionOrdered_uint64_15 F_cmp_Less_uint64 a.1 a.2.1 a.2.2.1 b.1 kn kr) (x1, (x2, (x3, ()))) (x4, ())
def ltmps_slices_partitionOrdered_uint64_5013 : SkL := (.cons (.const (.slw 0)) (.cons (.leaf (.int .i64)) (dz 8 (.cons (.leaf (.int .i64)) (.cons (.leaf (.int .i64)) (dz 156 .nil))))))
def lmem_slices_partitionOrdered_uint64_5013 : MSk := [(0, .row 22 (.cons (.int .u64) .nil))]
def louts_slices_partitionOrdered_uint64_5013 : List OutL := [⟨(.exit 4), (.cons (.const (.slw 0)) (.cons (.leaf (.int .i64)) (dz 9 (.cons (.leaf (.int .i64)) (dz 156 .nil))))), [(0, .row 22 (.cons (.int .u64) .nil))]⟩]
abbrev LT_slices_partitionOrdered_uint64_5013 : Type := (Int × Int × Int × Unit)
abbrev LM_slices_partitionOrdered_uint64_5013 : Type := (List Int × Unit)
abbrev LO_slices_partitionOrdered_uint64_5013 : Type := (Int × Int × Unit) × (List Int × Unit)
def ltree_slices_partitionOrdered_uint64_5013 (L_slices_partitionOrdered_uint64_13 : LT_slices_partitionOrdered_uint64_13 → LM_slices_partitionOrdered_uint64_13 → Option LO_slices_partitionOrdered_uint64_13) (L_slices_partitionOrdered_uint64_15 : LT_slices_partitionOrdered_uint64_15 → LM_slices_partitionOrdered_uint64_15 → Option LO_slices_partitionOrdered_uint64_15) {α : Type} (x1 : Int) (x2 : Int) (x3 : Int) (x4 : List Int) (kn : LT_slices_partitionOrdered_uint64_5013 → LM_slices_partitionOrdered_uint64_5013 → Option α) (kr : LO_slices_partitionOrdered_uint64_5013 → Option α) : Option α :=
  (L_slices_partitionOrdered_uint64_13 (x1, x2, x3, ()) (x4, ())).bind fun r1 =>
  (L_slices_partitionOrdered_uint64_15 (r1.fst.fst, r1.fst.snd.fst, r1.fst.snd.snd.fst, ()) (r1.snd.fst, ())).bind fun r2 =>
  cond (decide (r2.fst.snd.fst > r2.fst.snd.snd.fst))
  (kr ((r2.fst.fst, (r2.fst.snd.snd.fst, ())), (r2.snd.fst, ())))
  (cond (decide (0 ≤ r2.fst.snd.snd.fst))
   (cond (decide (r2.fst.snd.snd.fst < (↑r2.snd.fst.length : Int)))
    (cond (decide (0 ≤ r2.fst.snd.fst))
     (cond (decide (r2.fst.snd.fst < (↑r2.snd.fst.length : Int)))
      (cond (decide (0 ≤ r2.fst.snd.fst))
       (cond (decide (r2.fst.snd.fst < (↑r2.snd.fst.length : Int)))
        (cond (decide (0 ≤ r2.fst.snd.snd.fst))
         (cond (decide   (r2.fst.snd.snd.fst <     (↑(r2.snd.fst.set (0 + r2.fst.snd.fst.toNat) (r2.snd.fst.getD (0 + r2.fst.snd.snd.fst.toNat) 0)).length : Int)))
          (kn (r2.fst.fst, (IntKind.i64.wrap (r2.fst.snd.fst + 1), (IntKind.i64.wrap (r2.fst.snd.snd.fst - 1), ()))) ((r2.snd.fst.set (0 + r2.fst.snd.fst.toNat) (r2.snd.fst.getD (0 + r2.fst.snd.snd.fst.toNat) 0)).set   (0 + r2.fst.snd.snd.fst.toNat) (r2.snd.fst.getD (0 + r2.fst.snd.fst.toNat) 0), ()))
          (none))
         (none))
        (none))
       (none))
      (none))
     (none))
    (none))
   (none))
noncomputable def L_slices_partitionOrdered_uint64_5013 : LT_slices_partitionOrdered_uint64_5013 → LM_slices_partitionOrdered_uint64_5013 → Option LO_slices_partitionOrdered_uint64_5013 := fun x y => runL (fun p => (fun (a : LT_slices_partitionOrdered_uint64_5013) (b : LM_slices_partitionOrdered_uint64_5013) => ltree_slices_partitionOrdered_uint64_5013 L_slices_partitionOrdered_uint64_13 L_slices_partitionOrdered_uint64_15 a.1 a.2.1 a.2.2.1 b.1 (fun a' b' => some (.inl (a', b'))) fun r => some (.inr r)) p.1 p.2) (x, y)
theorem nl_slices_partitionOrdered_uint64_5013 (L_slices_partitionOrdered_uint64_13 : LT_slices_partitionOrdered_uint64_13 → LM_slices_partitionOrdered_uint64_13 → Option LO_slices_partitionOrdered_uint64_13) (L_slices_partitionOrdered_uint64_15 : LT_slices_partitionOrdered_uint64_15 → LM_slices_partitionOrdered_uint64_15 → Option LO_slices_partitionOrdered_uint64_15) (x1 : Int) (x2 : Int) (x3 : Int) (x4 : List Int) {α : Type} (kn : LT_slices_partitionOrdered_uint64_5013 → LM_slices_partitionOrdered_uint64_5013 → Option α) (kr : LO_slices_partitionOrdered_uint64_5013 → Option α) : ltree_slices_partitionOrdered_uint64_5013 L_slices_partitionOrdered_uint64_13 L_slices_partitionOrdered_uint64_15 x1 x2 x3 x4 kn kr = (ltree_slices_partitionOrdered_uint64_5013 L_slices_partitionOrdered_uint64_13 L_slices_partitionOrdered_uint64_15 x1 x2 x3 x4 (fun a b => some (.inl (a, b))) fun r => some (.inr r)).bind (Sum.elim (fun p : LT_slices_partitionOrdered_uint64_5013 × LM_slices_partitionOrdered_uint64_5013 => kn p.1 p.2) kr) := by simp only [ltree_slices_partitionOrdered_uint64_5013, bind_cond, bind_none', bind_some', bind_bind', bind_sum, Sum.elim_inl, Sum.elim_inr]
theorem Le_slices_partitionOrdered_uint64_5013 (x1 : Int) (x2 : Int) (x3 : Int) (x4 : List Int) : L_slices_partitionOrdered_uint64_5013 (x1, (x2, (x3, ()))) (x4, ()) = ltree_slices_partitionOrdered_uint64_5013 L_slices_partitionOrdered_uint64_13 L_slices_partitionOrdered_uint64_15 x1 x2 x3 x4 L_slices_partitionOrdered_uint64_5013 some := runL_tree (A := LT_slices_partitionOrdered_uint64_5013) (B := LM_slices_partitionOrdered_uint64_5013) (R := LO_slices_partitionOrdered_uint64_5013) (fun a b kn kr => ltree_slices_partitionOrdered_uint64_5013 L_slices_partitionOrdered_uint64_13 L_slices_partitionOrdered_uint64_15 a.1 a.2.1 a.2.2.1 b.1 kn kr) (fun a b kn kr => nl_slices_partitionOrdered_uint64_5013 L_slices_partitionOrdered_uint64_13 L_slices_partitionOrdered_uint64_15 a.1 a.2.1 a.2.2.1 b.1 kn kr) (x1, (x2, (x3, ()))) (x4, ())
def tree_slices_partitionOrdered_uint64 (L_slices_partitionOrdered_uint64_3 : LT_slices_partitionOrdered_uint64_3 → LM_slices_partitionOrdered_uint64_3 → Option LO_slices_partitionOrdered_uint64_3) (L_slices_partitionOrdered_uint64_5 : LT_slices_partitionOrdered_uint64_5 → LM_slices_partitionOrdered_uint64_5 → Option LO_slices_partitionOrdered_uint64_5) (L_slices_partitionOrdered_uint64_5013 : LT_slices_partitionOrdered_uint64_5013 → LM_slices_partitionOrdered_uint64_5013 → Option LO_slices_partitionOrdered_uint64_5013) {α : Type} (x1 : Int) (x2 : Int) (x3 : Int) (x4 : List Int) (K : O_slices_partitionOrdered_uint64 → Option α) : Option α :=
  cond (decide (0 ≤ x3))
  (cond (decide (x3 < (↑x4.length : Int)))
   (cond (decide (0 ≤ x1))
    (cond (decide (x1 < (↑x4.length : Int)))
     (cond (decide (0 ≤ x1))
      (cond (decide (x1 < (↑x4.length : Int)))
       (cond (decide (0 ≤ x3))
        (cond (decide (x3 < (↑(x4.set (0 + x1.toNat) (x4.getD (0 + x3.toNat) 0)).length : Int)))
         ((L_slices_partitionOrdered_uint64_3 (x1, IntKind.i64.wrap (x1 + 1), IntKind.i64.wrap (x2 - 1), ())   ((x4.set (0 + x1.toNat) (x4.getD (0 + x3.toNat) 0)).set (0 + x3.toNat) (x4.getD (0 + x1.toNat) 0), ())).bind fun r1 =>
          (L_slices_partitionOrdered_uint64_5 (r1.fst.fst, r1.fst.snd.fst, r1.fst.snd.snd.fst, ()) (r1.snd.fst, ())).bind fun r2 =>
          cond (decide (r2.fst.snd.fst > r2.fst.snd.snd.fst))
          (cond (decide (0 ≤ r2.fst.fst))
           (cond (decide (r2.fst.fst < (↑r2.snd.fst.length : Int)))
            (cond (decide (0 ≤ r2.fst.snd.snd.fst))
             (cond (decide (r2.fst.snd.snd.fst < (↑r2.snd.fst.length : Int)))
              (cond (decide (0 ≤ r2.fst.snd.snd.fst))
               (cond (decide (r2.fst.snd.snd.fst < (↑r2.snd.fst.length : Int)))
                (cond (decide (0 ≤ r2.fst.fst))
                 (cond (decide   (r2.fst.fst <     (↑(r2.snd.fst.set (0 + r2.fst.snd.snd.fst.toNat) (r2.snd.fst.getD (0 + r2.fst.fst.toNat) 0)).length : Int)))
                  (K ((r2.fst.snd.snd.fst, (true, ())), ((r2.snd.fst.set (0 + r2.fst.snd.snd.fst.toNat) (r2.snd.fst.getD (0 + r2.fst.fst.toNat) 0)).set (0 + r2.fst.fst.toNat)   (r2.snd.fst.getD (0 + r2.fst.snd.snd.fst.toNat) 0), ())))
                  (none))
                 (none))
                (none))
               (none))
              (none))
             (none))
            (none))
           (none))
          (cond (decide (0 ≤ r2.fst.snd.snd.fst))
           (cond (decide (r2.fst.snd.snd.fst < (↑r2.snd.fst.length : Int)))
            (cond (decide (0 ≤ r2.fst.snd.fst))
             (cond (decide (r2.fst.snd.fst < (↑r2.snd.fst.length : Int)))
              (cond (decide (0 ≤ r2.fst.snd.fst))
               (cond (decide (r2.fst.snd.fst < (↑r2.snd.fst.length : Int)))
                (cond (decide (0 ≤ r2.fst.snd.snd.fst))
                 (cond (decide   (r2.fst.snd.snd.fst <     (↑(r2.snd.fst.set (0 + r2.fst.snd.fst.toNat) (r2.snd.fst.getD (0 + r2.fst.snd.snd.fst.toNat) 0)).length : Int)))
                  ((L_slices_partitionOrdered_uint64_5013   (r2.fst.fst, IntKind.i64.wrap (r2.fst.snd.fst + 1), IntKind.i64.wrap (r2.fst.snd.snd.fst - 1), ())   ((r2.snd.fst.set (0 + r2.fst.snd.fst.toNat) (r2.snd.fst.getD (0 + r2.fst.snd.snd.fst.toNat) 0)).set       (0 + r2.fst.snd.snd.fst.toNat) (r2.snd.fst.getD (0 + r2.fst.snd.fst.toNat) 0),     ())).bind fun r3 =>
                   cond (decide (0 ≤ r3.fst.fst))
                   (cond (decide (r3.fst.fst < (↑r3.snd.fst.length : Int)))
                    (cond (decide (0 ≤ r3.fst.snd.fst))
                     (cond (decide (r3.fst.snd.fst < (↑r3.snd.fst.length : Int)))
                      (cond (decide (0 ≤ r3.fst.snd.fst))
                       (cond (decide (r3.fst.snd.fst < (↑r3.snd.fst.length : Int)))
                        (cond (decide (0 ≤ r3.fst.fst))
                         (cond (decide   (r3.fst.fst < (↑(r3.snd.fst.set (0 + r3.fst.snd.fst.toNat) (r3.snd.fst.getD (0 + r3.fst.fst.toNat) 0)).length : Int)))
                          (K ((r3.fst.snd.fst, (false, ())), ((r3.snd.fst.set (0 + r3.fst.snd.fst.toNat) (r3.snd.fst.getD (0 + r3.fst.fst.toNat) 0)).set (0 + r3.fst.fst.toNat)   (r3.snd.fst.getD (0 + r3.fst.snd.fst.toNat) 0), ())))
                          (none))
                         (none))
                        (none))
                       (none))
                      (none))
                     (none))
                    (none))
                   (none))
                  (none))
                 (none))
                (none))
               (none))
              (none))
             (none))
            (none))
           (none)))
         (none))
        (none))
       (none))
      (none))
     (none))
    (none))
   (none))
  (none)
noncomputable def F_slices_partitionOrdered_uint64 : A_slices_partitionOrdered_uint64 → M_slices_partitionOrdered_uint64 → Option O_slices_partitionOrdered_uint64 := fun a b => tree_slices_partitionOrdered_uint64 L_slices_partitionOrdered_uint64_3 L_slices_partitionOrdered_uint64_5 L_slices_partitionOrdered_uint64_5013 a.1 a.2.1 a.2.2.1 b.1 some
theorem n_slices_partitionOrdered_uint64 (L_slices_partitionOrdered_uint64_3 : LT_slices_partitionOrdered_uint64_3 → LM_slices_partitionOrdered_uint64_3 → Option LO_slices_partitionOrdered_uint64_3) (L_slices_partitionOrdered_uint64_5 : LT_slices_partitionOrdered_uint64_5 → LM_slices_partitionOrdered_uint64_5 → Option LO_slices_partitionOrdered_uint64_5) (L_slices_partitionOrdered_uint64_5013 : LT_slices_partitionOrdered_uint64_5013 → LM_slices_partitionOrdered_uint64_5013 → Option LO_slices_partitionOrdered_uint64_5013) (x1 : Int) (x2 : Int) (x3 : Int) (x4 : List Int) {α : Type} (K : O_slices_partitionOrdered_uint64 → Option α) : tree_slices_partitionOrdered_uint64 L_slices_partitionOrdered_uint64_3 L_slices_partitionOrdered_uint64_5 L_slices_partitionOrdered_uint64_5013 x1 x2 x3 x4 K = (tree_slices_partitionOrdered_uint64 L_slices_partitionOrdered_uint64_3 L_slices_partitionOrdered_uint64_5 L_slices_partitionOrdered_uint64_5013 x1 x2 x3 x4 some).bind K := by simp only [tree_slices_partitionOrdered_uint64, bind_cond, bind_none', bind_some', bind_bind', bind_sum]
theorem Fe_slices_partitionOrdered_uint64 (x1 : Int) (x2 : Int) (x3 : Int) (x4 : List Int) : F_slices_partitionOrdered_uint64 (x1, (x2, (x3, ()))) (x4, ()) = tree_slices_partitionOrdered_uint64 L_slices_partitionOrdered_uint64_3 L_slices_partitionOrdered_uint64_5 L_slices_partitionOrdered_uint64_5013 x1 x2 x3 x4 some := rfl
def args_slices_pdqsortOrdered_uint64 : SkL := (.cons (.const (.slw 0)) (.cons (.leaf (.int .i64)) (.cons (.leaf (.int .i64)) (.cons (.leaf (.int .i64)) .nil))))
def mem_slices_pdqsortOrdered_uint64 : MSk := [(0, .row 22 (.cons (.int .u64) .nil))]
def outs_slices_pdqsortOrdered_uint64 : List OutC := [⟨(.tup .nil), [(0, .row 22 (.cons (.int .u64) .nil))]⟩]
abbrev A_slices_pdqsortOrdered_uint64 : Type := (Int × Int × Int × Unit)
abbrev M_slices_pdqsortOrdered_uint64 : Type := (List Int × Unit)
abbrev O_slices_pdqsortOrdered_uint64 : Type := Unit × (List Int × Unit)
def ltmps_slices_pdqsortOrdered_uint64_2 : SkL := (.cons (.const (.slw 0)) (.cons (.leaf (.int .i64)) (.cons (.leaf (.int .i64)) (.cons (.leaf (.int .i64)) (dz 4 (.cons (.leaf .bool) (.cons (.leaf .bool) (dz 124 .nil))))))))
def lmem_slices_pdqsortOrdered_uint64_2 : MSk := [(0, .row 22 (.cons (.int .u64) .nil))]
def louts_slices_pdqsortOrdered_uint64_2 : List OutL := [⟨.ret, (dz 134 .nil), [(0, .row 22 (.cons (.int .u64) .nil))]⟩]
abbrev LT_slices_pdqsortOrdered_uint64_2 : Type := (Int × Int × Int × Bool × Bool × Unit)
abbrev LM_slices_pdqsortOrdered_uint64_2 : Type := (List Int × Unit)
abbrev LO_slices_pdqsortOrdered_uint64_2 : Type := Unit × (List Int × Unit)
def ltree_slices_pdqsortOrdered_uint64_2 (F_slices_insertionSortOrdered_uint64 : A_slices_insertionSortOrdered_uint64 → M_slices_insertionSortOrdered_uint64 → Option O_slices_insertionSortOrdered_uint64) (F_slices_heapSortOrdered_uint64 : A_slices_heapSortOrdered_uint64 → M_slices_heapSortOrdered_uint64 → Option O_slices_heapSortOrdered_uint64) (F_slices_breakPatternsOrdered_uint64 : A_slices_breakPatternsOrdered_uint64 → M_slices_breakPatternsOrdered_uint64 → Option O_slices_breakPatternsOrdered_uint64) (F_slices_choosePivotOrdered_uint64 : A_slices_choosePivotOrdered_uint64 → M_slices_choosePivotOrdered_uint64 → Option O_slices_choosePivotOrdered_uint64) (F_slices_reverseRangeOrdered_uint64 : A_slices_reverseRangeOrdered_uint64 → M_slices_reverseRangeOrdered_uint64 → Option O_slices_reverseRangeOrdered_uint64) (F_slices_partialInsertionSortOrdered_uint64 : A_slices_partialInsertionSortOrdered_uint64 → M_slices_partialInsertionSortOrdered_uint64 → Option O_slices_partialInsertionSortOrdered_uint64) (F_cmp_Less_uint64 : A_cmp_Less_uint64 → M_cmp_Less_uint64 → Option O_cmp_Less_uint64) (F_slices_partitionEqualOrdered_uint64 : A_slices_partitionEqualOrdered_uint64 → M_slices_partitionEqualOrdered_uint64 → Option O_slices_partitionEqualOrdered_uint64) (F_slices_partitionOrdered_uint64 : A_slices_partitionOrdered_uint64 → M_slices_partitionOrdered_uint64 → Option O_slices_partitionOrdered_uint64) (F_slices_pdqsortOrdered_uint64 : A_slices_pdqsortOrdered_uint64 → M_slices_pdqsortOrdered_uint64 → Option O_slices_pdqsortOrdered_uint64) {α : Type} (x1 : Int) (x2 : Int) (x3 : Int) (x4 : Bool) (x5 : Bool) (x6 : List Int) (kn : LT_slices_pdqsortOrdered_uint64_2 → LM_slices_pdqsortOrdered_uint64_2 → Option α) (kr : LO_slices_pdqsortOrdered_uint64_2 → Option α) : Option α :=
  cond (decide (IntKind.i64.wrap (x2 - x1) ≤ 12))
  ((F_slices_insertionSortOrdered_uint64 (x1, x2, ()) (x6, ())).bind fun r1 =>
   kr ((), (r1.snd.fst, ())))
  (cond (x3 == 0)
   ((F_slices_heapSortOrdered_uint64 (x1, x2, ()) (x6, ())).bind fun r2 =>
    kr ((), (r2.snd.fst, ())))
   (cond (!x4)
    ((F_slices_breakPatternsOrdered_uint64 (x1, x2, ()) (x6, ())).bind fun r3 =>
     (F_slices_choosePivotOrdered_uint64 (x1, x2, ()) (r3.snd.fst, ())).bind fun r4 =>
     cond (r4.fst.snd.fst == 2)
     ((F_slices_reverseRangeOrdered_uint64 (x1, x2, ()) (r4.snd.fst, ())).bind fun r5 =>
      cond (x4)
      (cond (x5)
       ((F_slices_partialInsertionSortOrdered_uint64 (x1, x2, ()) (r5.snd.fst, ())).bind fun r6 =>
        cond (r6.fst)
        (kr ((), (r6.snd.fst, ())))
        (cond (decide (x1 > 0))
         (cond (decide (0 ≤ IntKind.i64.wrap (x1 - 1)))
          (cond (decide (IntKind.i64.wrap (x1 - 1) < (↑r6.snd.fst.length : Int)))
           (cond (decide (0 ≤ IntKind.i64.wrap (IntKind.i64.wrap (x2 - 1) - IntKind.i64.wrap (r4.fst.fst - x1))))
            (cond (decide   (IntKind.i64.wrap (IntKind.i64.wrap (x2 - 1) - IntKind.i64.wrap (r4.fst.fst - x1)) <     (↑r6.snd.fst.length : Int)))
             ((F_cmp_Less_uint64   (r6.snd.fst.getD (0 + (IntKind.i64.wrap (x1 - 1)).toNat) 0,     r6.snd.fst.getD       (0 + (IntKind.i64.wrap (IntKind.i64.wrap (x2 - 1) - IntKind.i64.wrap (r4.fst.fst - x1))).toNat) 0,     ())   ()).bind fun r7 =>
              cond (!r7.fst)
              ((F_slices_partitionEqualOrdered_uint64   (x1, x2, IntKind.i64.wrap (IntKind.i64.wrap (x2 - 1) - IntKind.i64.wrap (r4.fst.fst - x1)), ())   (r6.snd.fst, ())).bind fun r8 =>
               kn (r8.fst, (x2, (IntKind.i64.wrap (x3 - 1), (x4, (x5, ()))))) (r8.snd.fst, ()))
              ((F_slices_partitionOrdered_uint64   (x1, x2, IntKind.i64.wrap (IntKind.i64.wrap (x2 - 1) - IntKind.i64.wrap (r4.fst.fst - x1)), ())   (r6.snd.fst, ())).bind fun r9 =>
               cond (decide (IntKind.i64.wrap (r9.fst.fst - x1) < IntKind.i64.wrap (x2 - r9.fst.fst)))
               ((F_slices_pdqsortOrdered_uint64 (x1, r9.fst.fst, IntKind.i64.wrap (x3 - 1), ()) (r9.snd.fst, ())).bind fun r10 =>
                kn (IntKind.i64.wrap (r9.fst.fst + 1), (x2, (IntKind.i64.wrap (x3 - 1), (decide (IntKind.i64.wrap (r9.fst.fst - x1) ≥ IntKind.i64.wrap ((IntKind.i64.wrap (x2 - x1)).tdiv 8)), (r9.fst.snd.fst, ()))))) (r10.snd.fst, ()))
               ((F_slices_pdqsortOrdered_uint64 (IntKind.i64.wrap (r9.fst.fst + 1), x2, IntKind.i64.wrap (x3 - 1), ())   (r9.snd.fst, ())).bind fun r11 =>
                kn (x1, (r9.fst.fst, (IntKind.i64.wrap (x3 - 1), (decide (IntKind.i64.wrap (x2 - r9.fst.fst) ≥ IntKind.i64.wrap ((IntKind.i64.wrap (x2 - x1)).tdiv 8)), (r9.fst.snd.fst, ()))))) (r11.snd.fst, ()))))
             (none))
            (none))
           (none))
          (none))
         ((F_slices_partitionOrdered_uint64   (x1, x2, IntKind.i64.wrap (IntKind.i64.wrap (x2 - 1) - IntKind.i64.wrap (r4.fst.fst - x1)), ())   (r6.snd.fst, ())).bind fun r12 =>
          cond (decide (IntKind.i64.wrap (r12.fst.fst - x1) < IntKind.i64.wrap (x2 - r12.fst.fst)))
          ((F_slices_pdqsortOrdered_uint64 (x1, r12.fst.fst, IntKind.i64.wrap (x3 - 1), ()) (r12.snd.fst, ())).bind fun r13 =>
           kn (IntKind.i64.wrap (r12.fst.fst + 1), (x2, (IntKind.i64.wrap (x3 - 1), (decide (IntKind.i64.wrap (r12.fst.fst - x1) ≥ IntKind.i64.wrap ((IntKind.i64.wrap (x2 - x1)).tdiv 8)), (r12.fst.snd.fst, ()))))) (r13.snd.fst, ()))
          ((F_slices_pdqsortOrdered_uint64 (IntKind.i64.wrap (r12.fst.fst + 1), x2, IntKind.i64.wrap (x3 - 1), ())   (r12.snd.fst, ())).bind fun r14 =>
           kn (x1, (r12.fst.fst, (IntKind.i64.wrap (x3 - 1), (decide (IntKind.i64.wrap (x2 - r12.fst.fst) ≥ IntKind.i64.wrap ((IntKind.i64.wrap (x2 - x1)).tdiv 8)), (r12.fst.snd.fst, ()))))) (r14.snd.fst, ())))))
       (cond (decide (x1 > 0))
        (cond (decide (0 ≤ IntKind.i64.wrap (x1 - 1)))
         (cond (decide (IntKind.i64.wrap (x1 - 1) < (↑r5.snd.fst.length : Int)))
          (cond (decide (0 ≤ IntKind.i64.wrap (IntKind.i64.wrap (x2 - 1) - IntKind.i64.wrap (r4.fst.fst - x1))))
           (cond (decide   (IntKind.i64.wrap (IntKind.i64.wrap (x2 - 1) - IntKind.i64.wrap (r4.fst.fst - x1)) <     (↑r5.snd.fst.length : Int)))
            ((F_cmp_Less_uint64   (r5.snd.fst.getD (0 + (IntKind.i64.wrap (x1 - 1)).toNat) 0,     r5.snd.fst.getD       (0 + (IntKind.i64.wrap (IntKind.i64.wrap (x2 - 1) - IntKind.i64.wrap (r4.fst.fst - x1))).toNat) 0,     ())   ()).bind fun r15 =>
             cond (!r15.fst)
             ((F_slices_partitionEqualOrdered_uint64   (x1, x2, IntKind.i64.wrap (IntKind.i64.wrap (x2 - 1) - IntKind.i64.wrap (r4.fst.fst - x1)), ())   (r5.snd.fst, ())).bind fun r16 =>
              kn (r16.fst, (x2, (IntKind.i64.wrap (x3 - 1), (x4, (x5, ()))))) (r16.snd.fst, ()))
             ((F_slices_partitionOrdered_uint64   (x1, x2, IntKind.i64.wrap (IntKind.i64.wrap (x2 - 1) - IntKind.i64.wrap (r4.fst.fst - x1)), ())   (r5.snd.fst, ())).bind fun r17 =>
              cond (decide (IntKind.i64.wrap (r17.fst.fst - x1) < IntKind.i64.wrap (x2 - r17.fst.fst)))
              ((F_slices_pdqsortOrdered_uint64 (x1, r17.fst.fst, IntKind.i64.wrap (x3 - 1), ()) (r17.snd.fst, ())).bind fun r18 =>
               kn (IntKind.i64.wrap (r17.fst.fst + 1), (x2, (IntKind.i64.wrap (x3 - 1), (decide (IntKind.i64.wrap (r17.fst.fst - x1) ≥ IntKind.i64.wrap ((IntKind.i64.wrap (x2 - x1)).tdiv 8)), (r17.fst.snd.fst, ()))))) (r18.snd.fst, ()))
              ((F_slices_pdqsortOrdered_uint64 (IntKind.i64.wrap (r17.fst.fst + 1), x2, IntKind.i64.wrap (x3 - 1), ())   (r17.snd.fst, ())).bind fun r19 =>
               kn (x1, (r17.fst.fst, (IntKind.i64.wrap (x3 - 1), (decide (IntKind.i64.wrap (x2 - r17.fst.fst) ≥ IntKind.i64.wrap ((IntKind.i64.wrap (x2 - x1)).tdiv 8)), (r17.fst.snd.fst, ()))))) (r19.snd.fst, ()))))
            (none))
           (none))
          (none))
         (none))
        ((F_slices_partitionOrdered_uint64   (x1, x2, IntKind.i64.wrap (IntKind.i64.wrap (x2 - 1) - IntKind.i64.wrap (r4.fst.fst - x1)), ())   (r5.snd.fst, ())).bind fun r20 =>
         cond (decide (IntKind.i64.wrap (r20.fst.fst - x1) < IntKind.i64.wrap (x2 - r20.fst.fst)))
         ((F_slices_pdqsortOrdered_uint64 (x1, r20.fst.fst, IntKind.i64.wrap (x3 - 1), ()) (r20.snd.fst, ())).bind fun r21 =>
          kn (IntKind.i64.wrap (r20.fst.fst + 1), (x2, (IntKind.i64.wrap (x3 - 1), (decide (IntKind.i64.wrap (r20.fst.fst - x1) ≥ IntKind.i64.wrap ((IntKind.i64.wrap (x2 - x1)).tdiv 8)), (r20.fst.snd.fst, ()))))) (r21.snd.fst, ()))
         ((F_slices_pdqsortOrdered_uint64 (IntKind.i64.wrap (r20.fst.fst + 1), x2, IntKind.i64.wrap (x3 - 1), ())   (r20.snd.fst, ())).bind fun r22 =>
          kn (x1, (r20.fst.fst, (IntKind.i64.wrap (x3 - 1), (decide (IntKind.i64.wrap (x2 - r20.fst.fst) ≥ IntKind.i64.wrap ((IntKind.i64.wrap (x2 - x1)).tdiv 8)), (r20.fst.snd.fst, ()))))) (r22.snd.fst, ())))))
      (cond (decide (x1 > 0))
       (cond (decide (0 ≤ IntKind.i64.wrap (x1 - 1)))
        (cond (decide (IntKind.i64.wrap (x1 - 1) < (↑r5.snd.fst.length : Int)))
         (cond (decide (0 ≤ IntKind.i64.wrap (IntKind.i64.wrap (x2 - 1) - IntKind.i64.wrap (r4.fst.fst - x1))))
          (cond (decide   (IntKind.i64.wrap (IntKind.i64.wrap (x2 - 1) - IntKind.i64.wrap (r4.fst.fst - x1)) <     (↑r5.snd.fst.length : Int)))
           ((F_cmp_Less_uint64   (r5.snd.fst.getD (0 + (IntKind.i64.wrap (x1 - 1)).toNat) 0,     r5.snd.fst.getD       (0 + (IntKind.i64.wrap (IntKind.i64.wrap (x2 - 1) - IntKind.i64.wrap (r4.fst.fst - x1))).toNat) 0,     ())   ()).bind fun r23 =>
            cond (!r23.fst)
            ((F_slices_partitionEqualOrdered_uint64   (x1, x2, IntKind.i64.wrap (IntKind.i64.wrap (x2 - 1) - IntKind.i64.wrap (r4.fst.fst - x1)), ())   (r5.snd.fst, ())).bind fun r24 =>
             kn (r24.fst, (x2, (IntKind.i64.wrap (x3 - 1), (x4, (x5, ()))))) (r24.snd.fst, ()))
            ((F_slices_partitionOrdered_uint64   (x1, x2, IntKind.i64.wrap (IntKind.i64.wrap (x2 - 1) - IntKind.i64.wrap (r4.fst.fst - x1)), ())   (r5.snd.fst, ())).bind fun r25 =>
             cond (decide (IntKind.i64.wrap (r25.fst.fst - x1) < IntKind.i64.wrap (x2 - r25.fst.fst)))
             ((F_slices_pdqsortOrdered_uint64 (x1, r25.fst.fst, IntKind.i64.wrap (x3 - 1), ()) (r25.snd.fst, ())).bind fun r26 =>
              kn (IntKind.i64.wrap (r25.fst.fst + 1), (x2, (IntKind.i64.wrap (x3 - 1), (decide (IntKind.i64.wrap (r25.fst.fst - x1) ≥ IntKind.i64.wrap ((IntKind.i64.wrap (x2 - x1)).tdiv 8)), (r25.fst.snd.fst, ()))))) (r26.snd.fst, ()))
             ((F_slices_pdqsortOrdered_uint64 (IntKind.i64.wrap (r25.fst.fst + 1), x2, IntKind.i64.wrap (x3 - 1), ())   (r25.snd.fst, ())).bind fun r27 =>
              kn (x1, (r25.fst.fst, (IntKind.i64.wrap (x3 - 1), (decide (IntKind.i64.wrap (x2 - r25.fst.fst) ≥ IntKind.i64.wrap ((IntKind.i64.wrap (x2 - x1)).tdiv 8)), (r25.fst.snd.fst, ()))))) (r27.snd.fst, ()))))
           (none))
          (none))
         (none))
        (none))
       ((F_slices_partitionOrdered_uint64   (x1, x2, IntKind.i64.wrap (IntKind.i64.wrap (x2 - 1) - IntKind.i64.wrap (r4.fst.fst - x1)), ())   (r5.snd.fst, ())).bind fun r28 =>
        cond (decide (IntKind.i64.wrap (r28.fst.fst - x1) < IntKind.i64.wrap (x2 - r28.fst.fst)))
        ((F_slices_pdqsortOrdered_uint64 (x1, r28.fst.fst, IntKind.i64.wrap (x3 - 1), ()) (r28.snd.fst, ())).bind fun r29 =>
         kn (IntKind.i64.wrap (r28.fst.fst + 1), (x2, (IntKind.i64.wrap (x3 - 1), (decide (IntKind.i64.wrap (r28.fst.fst - x1) ≥ IntKind.i64.wrap ((IntKind.i64.wrap (x2 - x1)).tdiv 8)), (r28.fst.snd.fst, ()))))) (r29.snd.fst, ()))
        ((F_slices_pdqsortOrdered_uint64 (IntKind.i64.wrap (r28.fst.fst + 1), x2, IntKind.i64.wrap (x3 - 1), ())   (r28.snd.fst, ())).bind fun r30 =>
         kn (x1, (r28.fst.fst, (IntKind.i64.wrap (x3 - 1), (decide (IntKind.i64.wrap (x2 - r28.fst.fst) ≥ IntKind.i64.wrap ((IntKind.i64.wrap (x2 - x1)).tdiv 8)), (r28.fst.snd.fst, ()))))) (r30.snd.fst, ())))))
     (cond (x4)
      (cond (x5)
       (cond (r4.fst.snd.fst == 1)
        ((F_slices_partialInsertionSortOrdered_uint64 (x1, x2, ()) (r4.snd.fst, ())).bind fun r31 =>
         cond (r31.fst)
         (kr ((), (r31.snd.fst, ())))
         (cond (decide (x1 > 0))
          (cond (decide (0 ≤ IntKind.i64.wrap (x1 - 1)))
           (cond (decide (IntKind.i64.wrap (x1 - 1) < (↑r31.snd.fst.length : Int)))
            (cond (decide (0 ≤ r4.fst.fst))
             (cond (decide (r4.fst.fst < (↑r31.snd.fst.length : Int)))
              ((F_cmp_Less_uint64   (r31.snd.fst.getD (0 + (IntKind.i64.wrap (x1 - 1)).toNat) 0, r31.snd.fst.getD (0 + r4.fst.fst.toNat) 0, ()) ()).bind fun r32 =>
               cond (!r32.fst)
               ((F_slices_partitionEqualOrdered_uint64 (x1, x2, r4.fst.fst, ()) (r31.snd.fst, ())).bind fun r33 =>
                kn (r33.fst, (x2, (IntKind.i64.wrap (x3 - 1), (x4, (x5, ()))))) (r33.snd.fst, ()))
               ((F_slices_partitionOrdered_uint64 (x1, x2, r4.fst.fst, ()) (r31.snd.fst, ())).bind fun r34 =>
                cond (decide (IntKind.i64.wrap (r34.fst.fst - x1) < IntKind.i64.wrap (x2 - r34.fst.fst)))
                ((F_slices_pdqsortOrdered_uint64 (x1, r34.fst.fst, IntKind.i64.wrap (x3 - 1), ()) (r34.snd.fst, ())).bind fun r35 =>
                 kn (IntKind.i64.wrap (r34.fst.fst + 1), (x2, (IntKind.i64.wrap (x3 - 1), (decide (IntKind.i64.wrap (r34.fst.fst - x1) ≥ IntKind.i64.wrap ((IntKind.i64.wrap (x2 - x1)).tdiv 8)), (r34.fst.snd.fst, ()))))) (r35.snd.fst, ()))
                ((F_slices_pdqsortOrdered_uint64 (IntKind.i64.wrap (r34.fst.fst + 1), x2, IntKind.i64.wrap (x3 - 1), ())   (r34.snd.fst, ())).bind fun r36 =>
                 kn (x1, (r34.fst.fst, (IntKind.i64.wrap (x3 - 1), (decide (IntKind.i64.wrap (x2 - r34.fst.fst) ≥ IntKind.i64.wrap ((IntKind.i64.wrap (x2 - x1)).tdiv 8)), (r34.fst.snd.fst, ()))))) (r36.snd.fst, ()))))
              (none))
             (none))
            (none))
           (none))
          ((F_slices_partitionOrdered_uint64 (x1, x2, r4.fst.fst, ()) (r31.snd.fst, ())).bind fun r37 =>
           cond (decide (IntKind.i64.wrap (r37.fst.fst - x1) < IntKind.i64.wrap (x2 - r37.fst.fst)))
           ((F_slices_pdqsortOrdered_uint64 (x1, r37.fst.fst, IntKind.i64.wrap (x3 - 1), ()) (r37.snd.fst, ())).bind fun r38 =>
            kn (IntKind.i64.wrap (r37.fst.fst + 1), (x2, (IntKind.i64.wrap (x3 - 1), (decide (IntKind.i64.wrap (r37.fst.fst - x1) ≥ IntKind.i64.wrap ((IntKind.i64.wrap (x2 - x1)).tdiv 8)), (r37.fst.snd.fst, ()))))) (r38.snd.fst, ()))
           ((F_slices_pdqsortOrdered_uint64 (IntKind.i64.wrap (r37.fst.fst + 1), x2, IntKind.i64.wrap (x3 - 1), ())   (r37.snd.fst, ())).bind fun r39 =>
            kn (x1, (r37.fst.fst, (IntKind.i64.wrap (x3 - 1), (decide (IntKind.i64.wrap (x2 - r37.fst.fst) ≥ IntKind.i64.wrap ((IntKind.i64.wrap (x2 - x1)).tdiv 8)), (r37.fst.snd.fst, ()))))) (r39.snd.fst, ())))))
        (cond (decide (x1 > 0))
         (cond (decide (0 ≤ IntKind.i64.wrap (x1 - 1)))
          (cond (decide (IntKind.i64.wrap (x1 - 1) < (↑r4.snd.fst.length : Int)))
           (cond (decide (0 ≤ r4.fst.fst))
            (cond (decide (r4.fst.fst < (↑r4.snd.fst.length : Int)))
             ((F_cmp_Less_uint64   (r4.snd.fst.getD (0 + (IntKind.i64.wrap (x1 - 1)).toNat) 0, r4.snd.fst.getD (0 + r4.fst.fst.toNat) 0, ()) ()).bind fun r40 =>
              cond (!r40.fst)
              ((F_slices_partitionEqualOrdered_uint64 (x1, x2, r4.fst.fst, ()) (r4.snd.fst, ())).bind fun r41 =>
               kn (r41.fst, (x2, (IntKind.i64.wrap (x3 - 1), (x4, (x5, ()))))) (r41.snd.fst, ()))
              ((F_slices_partitionOrdered_uint64 (x1, x2, r4.fst.fst, ()) (r4.snd.fst, ())).bind fun r42 =>
               cond (decide (IntKind.i64.wrap (r42.fst.fst - x1) < IntKind.i64.wrap (x2 - r42.fst.fst)))
               ((F_slices_pdqsortOrdered_uint64 (x1, r42.fst.fst, IntKind.i64.wrap (x3 - 1), ()) (r42.snd.fst, ())).bind fun r43 =>
                kn (IntKind.i64.wrap (r42.fst.fst + 1), (x2, (IntKind.i64.wrap (x3 - 1), (decide (IntKind.i64.wrap (r42.fst.fst - x1) ≥ IntKind.i64.wrap ((IntKind.i64.wrap (x2 - x1)).tdiv 8)), (r42.fst.snd.fst, ()))))) (r43.snd.fst, ()))
               ((F_slices_pdqsortOrdered_uint64 (IntKind.i64.wrap (r42.fst.fst + 1), x2, IntKind.i64.wrap (x3 - 1), ())   (r42.snd.fst, ())).bind fun r44 =>
                kn (x1, (r42.fst.fst, (IntKind.i64.wrap (x3 - 1), (decide (IntKind.i64.wrap (x2 - r42.fst.fst) ≥ IntKind.i64.wrap ((IntKind.i64.wrap (x2 - x1)).tdiv 8)), (r42.fst.snd.fst, ()))))) (r44.snd.fst, ()))))
             (none))
            (none))
           (none))
          (none))
         ((F_slices_partitionOrdered_uint64 (x1, x2, r4.fst.fst, ()) (r4.snd.fst, ())).bind fun r45 =>
          cond (decide (IntKind.i64.wrap (r45.fst.fst - x1) < IntKind.i64.wrap (x2 - r45.fst.fst)))
          ((F_slices_pdqsortOrdered_uint64 (x1, r45.fst.fst, IntKind.i64.wrap (x3 - 1), ()) (r45.snd.fst, ())).bind fun r46 =>
           kn (IntKind.i64.wrap (r45.fst.fst + 1), (x2, (IntKind.i64.wrap (x3 - 1), (decide (IntKind.i64.wrap (r45.fst.fst - x1) ≥ IntKind.i64.wrap ((IntKind.i64.wrap (x2 - x1)).tdiv 8)), (r45.fst.snd.fst, ()))))) (r46.snd.fst, ()))
          ((F_slices_pdqsortOrdered_uint64 (IntKind.i64.wrap (r45.fst.fst + 1), x2, IntKind.i64.wrap (x3 - 1), ())   (r45.snd.fst, ())).bind fun r47 =>
           kn (x1, (r45.fst.fst, (IntKind.i64.wrap (x3 - 1), (decide (IntKind.i64.wrap (x2 - r45.fst.fst) ≥ IntKind.i64.wrap ((IntKind.i64.wrap (x2 - x1)).tdiv 8)), (r45.fst.snd.fst, ()))))) (r47.snd.fst, ())))))
       (cond (decide (x1 > 0))
        (cond (decide (0 ≤ IntKind.i64.wrap (x1 - 1)))
         (cond (decide (IntKind.i64.wrap (x1 - 1) < (↑r4.snd.fst.length : Int)))
          (cond (decide (0 ≤ r4.fst.fst))
           (cond (decide (r4.fst.fst < (↑r4.snd.fst.length : Int)))
            ((F_cmp_Less_uint64   (r4.snd.fst.getD (0 + (IntKind.i64.wrap (x1 - 1)).toNat) 0, r4.snd.fst.getD (0 + r4.fst.fst.toNat) 0, ()) ()).bind fun r48 =>
             cond (!r48.fst)
             ((F_slices_partitionEqualOrdered_uint64 (x1, x2, r4.fst.fst, ()) (r4.snd.fst, ())).bind fun r49 =>
              kn (r49.fst, (x2, (IntKind.i64.wrap (x3 - 1), (x4, (x5, ()))))) (r49.snd.fst, ()))
             ((F_slices_partitionOrdered_uint64 (x1, x2, r4.fst.fst, ()) (r4.snd.fst, ())).bind fun r50 =>
              cond (decide (IntKind.i64.wrap (r50.fst.fst - x1) < IntKind.i64.wrap (x2 - r50.fst.fst)))
              ((F_slices_pdqsortOrdered_uint64 (x1, r50.fst.fst, IntKind.i64.wrap (x3 - 1), ()) (r50.snd.fst, ())).bind fun r51 =>
               kn (IntKind.i64.wrap (r50.fst.fst + 1), (x2, (IntKind.i64.wrap (x3 - 1), (decide (IntKind.i64.wrap (r50.fst.fst - x1) ≥ IntKind.i64.wrap ((IntKind.i64.wrap (x2 - x1)).tdiv 8)), (r50.fst.snd.fst, ()))))) (r51.snd.fst, ()))
              ((F_slices_pdqsortOrdered_uint64 (IntKind.i64.wrap (r50.fst.fst + 1), x2, IntKind.i64.wrap (x3 - 1), ())   (r50.snd.fst, ())).bind fun r52 =>
               kn (x1, (r50.fst.fst, (IntKind.i64.wrap (x3 - 1), (decide (IntKind.i64.wrap (x2 - r50.fst.fst) ≥ IntKind.i64.wrap ((IntKind.i64.wrap (x2 - x1)).tdiv 8)), (r50.fst.snd.fst, ()))))) (r52.snd.fst, ()))))
            (none))
           (none))
          (none))
         (none))
        ((F_slices_partitionOrdered_uint64 (x1, x2, r4.fst.fst, ()) (r4.snd.fst, ())).bind fun r53 =>
         cond (decide (IntKind.i64.wrap (r53.fst.fst - x1) < IntKind.i64.wrap (x2 - r53.fst.fst)))
         ((F_slices_pdqsortOrdered_uint64 (x1, r53.fst.fst, IntKind.i64.wrap (x3 - 1), ()) (r53.snd.fst, ())).bind fun r54 =>
          kn (IntKind.i64.wrap (r53.fst.fst + 1), (x2, (IntKind.i64.wrap (x3 - 1), (decide (IntKind.i64.wrap (r53.fst.fst - x1) ≥ IntKind.i64.wrap ((IntKind.i64.wrap (x2 - x1)).tdiv 8)), (r53.fst.snd.fst, ()))))) (r54.snd.fst, ()))
         ((F_slices_pdqsortOrdered_uint64 (IntKind.i64.wrap (r53.fst.fst + 1), x2, IntKind.i64.wrap (x3 - 1), ())   (r53.snd.fst, ())).bind fun r55 =>
          kn (x1, (r53.fst.fst, (IntKind.i64.wrap (x3 - 1), (decide (IntKind.i64.wrap (x2 - r53.fst.fst) ≥ IntKind.i64.wrap ((IntKind.i64.wrap (x2 - x1)).tdiv 8)), (r53.fst.snd.fst, ()))))) (r55.snd.fst, ())))))
      (cond (decide (x1 > 0))
       (cond (decide (0 ≤ IntKind.i64.wrap (x1 - 1)))
        (cond (decide (IntKind.i64.wrap (x1 - 1) < (↑r4.snd.fst.length : Int)))
         (cond (decide (0 ≤ r4.fst.fst))
          (cond (decide (r4.fst.fst < (↑r4.snd.fst.length : Int)))
           ((F_cmp_Less_uint64   (r4.snd.fst.getD (0 + (IntKind.i64.wrap (x1 - 1)).toNat) 0, r4.snd.fst.getD (0 + r4.fst.fst.toNat) 0, ()) ()).bind fun r56 =>
            cond (!r56.fst)
            ((F_slices_partitionEqualOrdered_uint64 (x1, x2, r4.fst.fst, ()) (r4.snd.fst, ())).bind fun r57 =>
             kn (r57.fst, (x2, (IntKind.i64.wrap (x3 - 1), (x4, (x5, ()))))) (r57.snd.fst, ()))
            ((F_slices_partitionOrdered_uint64 (x1, x2, r4.fst.fst, ()) (r4.snd.fst, ())).bind fun r58 =>
             cond (decide (IntKind.i64.wrap (r58.fst.fst - x1) < IntKind.i64.wrap (x2 - r58.fst.fst)))
             ((F_slices_pdqsortOrdered_uint64 (x1, r58.fst.fst, IntKind.i64.wrap (x3 - 1), ()) (r58.snd.fst, ())).bind fun r59 =>
              kn (IntKind.i64.wrap (r58.fst.fst + 1), (x2, (IntKind.i64.wrap (x3 - 1), (decide (IntKind.i64.wrap (r58.fst.fst - x1) ≥ IntKind.i64.wrap ((IntKind.i64.wrap (x2 - x1)).tdiv 8)), (r58.fst.snd.fst, ()))))) (r59.snd.fst, ()))
             ((F_slices_pdqsortOrdered_uint64 (IntKind.i64.wrap (r58.fst.fst + 1), x2, IntKind.i64.wrap (x3 - 1), ())   (r58.snd.fst, ())).bind fun r60 =>
              kn (x1, (r58.fst.fst, (IntKind.i64.wrap (x3 - 1), (decide (IntKind.i64.wrap (x2 - r58.fst.fst) ≥ IntKind.i64.wrap ((IntKind.i64.wrap (x2 - x1)).tdiv 8)), (r58.fst.snd.fst, ()))))) (r60.snd.fst, ()))))
           (none))
          (none))
         (none))
        (none))
       ((F_slices_partitionOrdered_uint64 (x1, x2, r4.fst.fst, ()) (r4.snd.fst, ())).bind fun r61 =>
        cond (decide (IntKind.i64.wrap (r61.fst.fst - x1) < IntKind.i64.wrap (x2 - r61.fst.fst)))
        ((F_slices_pdqsortOrdered_uint64 (x1, r61.fst.fst, IntKind.i64.wrap (x3 - 1), ()) (r61.snd.fst, ())).bind fun r62 =>
         kn (IntKind.i64.wrap (r61.fst.fst + 1), (x2, (IntKind.i64.wrap (x3 - 1), (decide (IntKind.i64.wrap (r61.fst.fst - x1) ≥ IntKind.i64.wrap ((IntKind.i64.wrap (x2 - x1)).tdiv 8)), (r61.fst.snd.fst, ()))))) (r62.snd.fst, ()))
        ((F_slices_pdqsortOrdered_uint64 (IntKind.i64.wrap (r61.fst.fst + 1), x2, IntKind.i64.wrap (x3 - 1), ())   (r61.snd.fst, ())).bind fun r63 =>
         kn (x1, (r61.fst.fst, (IntKind.i64.wrap (x3 - 1), (decide (IntKind.i64.wrap (x2 - r61.fst.fst) ≥ IntKind.i64.wrap ((IntKind.i64.wrap (x2 - x1)).tdiv 8)), (r61.fst.snd.fst, ()))))) (r63.snd.fst, ()))))))
    ((F_slices_choosePivotOrdered_uint64 (x1, x2, ()) (x6, ())).bind fun r64 =>
     cond (r64.fst.snd.fst == 2)
     ((F_slices_reverseRangeOrdered_uint64 (x1, x2, ()) (r64.snd.fst, ())).bind fun r65 =>
      cond (x4)
      (cond (x5)
       ((F_slices_partialInsertionSortOrdered_uint64 (x1, x2, ()) (r65.snd.fst, ())).bind fun r66 =>
        cond (r66.fst)
        (kr ((), (r66.snd.fst, ())))
        (cond (decide (x1 > 0))
         (cond (decide (0 ≤ IntKind.i64.wrap (x1 - 1)))
          (cond (decide (IntKind.i64.wrap (x1 - 1) < (↑r66.snd.fst.length : Int)))
           (cond (decide (0 ≤ IntKind.i64.wrap (IntKind.i64.wrap (x2 - 1) - IntKind.i64.wrap (r64.fst.fst - x1))))
            (cond (decide   (IntKind.i64.wrap (IntKind.i64.wrap (x2 - 1) - IntKind.i64.wrap (r64.fst.fst - x1)) <     (↑r66.snd.fst.length : Int)))
             ((F_cmp_Less_uint64   (r66.snd.fst.getD (0 + (IntKind.i64.wrap (x1 - 1)).toNat) 0,     r66.snd.fst.getD       (0 + (IntKind.i64.wrap (IntKind.i64.wrap (x2 - 1) - IntKind.i64.wrap (r64.fst.fst - x1))).toNat) 0,     ())   ()).bind fun r67 =>
              cond (!r67.fst)
              ((F_slices_partitionEqualOrdered_uint64   (x1, x2, IntKind.i64.wrap (IntKind.i64.wrap (x2 - 1) - IntKind.i64.wrap (r64.fst.fst - x1)), ())   (r66.snd.fst, ())).bind fun r68 =>
               kn (r68.fst, (x2, (x3, (x4, (x5, ()))))) (r68.snd.fst, ()))
              ((F_slices_partitionOrdered_uint64   (x1, x2, IntKind.i64.wrap (IntKind.i64.wrap (x2 - 1) - IntKind.i64.wrap (r64.fst.fst - x1)), ())   (r66.snd.fst, ())).bind fun r69 =>
               cond (decide (IntKind.i64.wrap (r69.fst.fst - x1) < IntKind.i64.wrap (x2 - r69.fst.fst)))
               ((F_slices_pdqsortOrdered_uint64 (x1, r69.fst.fst, x3, ()) (r69.snd.fst, ())).bind fun r70 =>
                kn (IntKind.i64.wrap (r69.fst.fst + 1), (x2, (x3, (decide (IntKind.i64.wrap (r69.fst.fst - x1) ≥ IntKind.i64.wrap ((IntKind.i64.wrap (x2 - x1)).tdiv 8)), (r69.fst.snd.fst, ()))))) (r70.snd.fst, ()))
               ((F_slices_pdqsortOrdered_uint64 (IntKind.i64.wrap (r69.fst.fst + 1), x2, x3, ()) (r69.snd.fst, ())).bind fun r71 =>
                kn (x1, (r69.fst.fst, (x3, (decide (IntKind.i64.wrap (x2 - r69.fst.fst) ≥ IntKind.i64.wrap ((IntKind.i64.wrap (x2 - x1)).tdiv 8)), (r69.fst.snd.fst, ()))))) (r71.snd.fst, ()))))
             (none))
            (none))
           (none))
          (none))
         ((F_slices_partitionOrdered_uint64   (x1, x2, IntKind.i64.wrap (IntKind.i64.wrap (x2 - 1) - IntKind.i64.wrap (r64.fst.fst - x1)), ())   (r66.snd.fst, ())).bind fun r72 =>
          cond (decide (IntKind.i64.wrap (r72.fst.fst - x1) < IntKind.i64.wrap (x2 - r72.fst.fst)))
          ((F_slices_pdqsortOrdered_uint64 (x1, r72.fst.fst, x3, ()) (r72.snd.fst, ())).bind fun r73 =>
           kn (IntKind.i64.wrap (r72.fst.fst + 1), (x2, (x3, (decide (IntKind.i64.wrap (r72.fst.fst - x1) ≥ IntKind.i64.wrap ((IntKind.i64.wrap (x2 - x1)).tdiv 8)), (r72.fst.snd.fst, ()))))) (r73.snd.fst, ()))
          ((F_slices_pdqsortOrdered_uint64 (IntKind.i64.wrap (r72.fst.fst + 1), x2, x3, ()) (r72.snd.fst, ())).bind fun r74 =>
           kn (x1, (r72.fst.fst, (x3, (decide (IntKind.i64.wrap (x2 - r72.fst.fst) ≥ IntKind.i64.wrap ((IntKind.i64.wrap (x2 - x1)).tdiv 8)), (r72.fst.snd.fst, ()))))) (r74.snd.fst, ())))))
       (cond (decide (x1 > 0))
        (cond (decide (0 ≤ IntKind.i64.wrap (x1 - 1)))
         (cond (decide (IntKind.i64.wrap (x1 - 1) < (↑r65.snd.fst.length : Int)))
          (cond (decide (0 ≤ IntKind.i64.wrap (IntKind.i64.wrap (x2 - 1) - IntKind.i64.wrap (r64.fst.fst - x1))))
           (cond (decide   (IntKind.i64.wrap (IntKind.i64.wrap (x2 - 1) - IntKind.i64.wrap (r64.fst.fst - x1)) <     (↑r65.snd.fst.length : Int)))
            ((F_cmp_Less_uint64   (r65.snd.fst.getD (0 + (IntKind.i64.wrap (x1 - 1)).toNat) 0,     r65.snd.fst.getD       (0 + (IntKind.i64.wrap (IntKind.i64.wrap (x2 - 1) - IntKind.i64.wrap (r64.fst.fst - x1))).toNat) 0,     ())   ()).bind fun r75 =>
             cond (!r75.fst)
             ((F_slices_partitionEqualOrdered_uint64   (x1, x2, IntKind.i64.wrap (IntKind.i64.wrap (x2 - 1) - IntKind.i64.wrap (r64.fst.fst - x1)), ())   (r65.snd.fst, ())).bind fun r76 =>
              kn (r76.fst, (x2, (x3, (x4, (x5, ()))))) (r76.snd.fst, ()))
             ((F_slices_partitionOrdered_uint64   (x1, x2, IntKind.i64.wrap (IntKind.i64.wrap (x2 - 1) - IntKind.i64.wrap (r64.fst.fst - x1)), ())   (r65.snd.fst, ())).bind fun r77 =>
              cond (decide (IntKind.i64.wrap (r77.fst.fst - x1) < IntKind.i64.wrap (x2 - r77.fst.fst)))
              ((F_slices_pdqsortOrdered_uint64 (x1, r77.fst.fst, x3, ()) (r77.snd.fst, ())).bind fun r78 =>
               kn (IntKind.i64.wrap (r77.fst.fst + 1), (x2, (x3, (decide (IntKind.i64.wrap (r77.fst.fst - x1) ≥ IntKind.i64.wrap ((IntKind.i64.wrap (x2 - x1)).tdiv 8)), (r77.fst.snd.fst, ()))))) (r78.snd.fst, ()))
              ((F_slices_pdqsortOrdered_uint64 (IntKind.i64.wrap (r77.fst.fst + 1), x2, x3, ()) (r77.snd.fst, ())).bind fun r79 =>
               kn (x1, (r77.fst.fst, (x3, (decide (IntKind.i64.wrap (x2 - r77.fst.fst) ≥ IntKind.i64.wrap ((IntKind.i64.wrap (x2 - x1)).tdiv 8)), (r77.fst.snd.fst, ()))))) (r79.snd.fst, ()))))
            (none))
           (none))
          (none))
         (none))
        ((F_slices_partitionOrdered_uint64   (x1, x2, IntKind.i64.wrap (IntKind.i64.wrap (x2 - 1) - IntKind.i64.wrap (r64.fst.fst - x1)), ())   (r65.snd.fst, ())).bind fun r80 =>
         cond (decide (IntKind.i64.wrap (r80.fst.fst - x1) < IntKind.i64.wrap (x2 - r80.fst.fst)))
         ((F_slices_pdqsortOrdered_uint64 (x1, r80.fst.fst, x3, ()) (r80.snd.fst, ())).bind fun r81 =>
          kn (IntKind.i64.wrap (r80.fst.fst + 1), (x2, (x3, (decide (IntKind.i64.wrap (r80.fst.fst - x1) ≥ IntKind.i64.wrap ((IntKind.i64.wrap (x2 - x1)).tdiv 8)), (r80.fst.snd.fst, ()))))) (r81.snd.fst, ()))
         ((F_slices_pdqsortOrdered_uint64 (IntKind.i64.wrap (r80.fst.fst + 1), x2, x3, ()) (r80.snd.fst, ())).bind fun r82 =>
          kn (x1, (r80.fst.fst, (x3, (decide (IntKind.i64.wrap (x2 - r80.fst.fst) ≥ IntKind.i64.wrap ((IntKind.i64.wrap (x2 - x1)).tdiv 8)), (r80.fst.snd.fst, ()))))) (r82.snd.fst, ())))))
      (cond (decide (x1 > 0))
       (cond (decide (0 ≤ IntKind.i64.wrap (x1 - 1)))
        (cond (decide (IntKind.i64.wrap (x1 - 1) < (↑r65.snd.fst.length : Int)))
         (cond (decide (0 ≤ IntKind.i64.wrap (IntKind.i64.wrap (x2 - 1) - IntKind.i64.wrap (r64.fst.fst - x1))))
          (cond (decide   (IntKind.i64.wrap (IntKind.i64.wrap (x2 - 1) - IntKind.i64.wrap (r64.fst.fst - x1)) <     (↑r65.snd.fst.length : Int)))
           ((F_cmp_Less_uint64   (r65.snd.fst.getD (0 + (IntKind.i64.wrap (x1 - 1)).toNat) 0,     r65.snd.fst.getD       (0 + (IntKind.i64.wrap (IntKind.i64.wrap (x2 - 1) - IntKind.i64.wrap (r64.fst.fst - x1))).toNat) 0,     ())   ()).bind fun r83 =>
            cond (!r83.fst)
            ((F_slices_partitionEqualOrdered_uint64   (x1, x2, IntKind.i64.wrap (IntKind.i64.wrap (x2 - 1) - IntKind.i64.wrap (r64.fst.fst - x1)), ())   (r65.snd.fst, ())).bind fun r84 =>
             kn (r84.fst, (x2, (x3, (x4, (x5, ()))))) (r84.snd.fst, ()))
            ((F_slices_partitionOrdered_uint64   (x1, x2, IntKind.i64.wrap (IntKind.i64.wrap (x2 - 1) - IntKind.i64.wrap (r64.fst.fst - x1)), ())   (r65.snd.fst, ())).bind fun r85 =>
             cond (decide (IntKind.i64.wrap (r85.fst.fst - x1) < IntKind.i64.wrap (x2 - r85.fst.fst)))
             ((F_slices_pdqsortOrdered_uint64 (x1, r85.fst.fst, x3, ()) (r85.snd.fst, ())).bind fun r86 =>
              kn (IntKind.i64.wrap (r85.fst.fst + 1), (x2, (x3, (decide (IntKind.i64.wrap (r85.fst.fst - x1) ≥ IntKind.i64.wrap ((IntKind.i64.wrap (x2 - x1)).tdiv 8)), (r85.fst.snd.fst, ()))))) (r86.snd.fst, ()))
             ((F_slices_pdqsortOrdered_uint64 (IntKind.i64.wrap (r85.fst.fst + 1), x2, x3, ()) (r85.snd.fst, ())).bind fun r87 =>
              kn (x1, (r85.fst.fst, (x3, (decide (IntKind.i64.wrap (x2 - r85.fst.fst) ≥ IntKind.i64.wrap ((IntKind.i64.wrap (x2 - x1)).tdiv 8)), (r85.fst.snd.fst, ()))))) (r87.snd.fst, ()))))
           (none))
          (none))
         (none))
        (none))
       ((F_slices_partitionOrdered_uint64   (x1, x2, IntKind.i64.wrap (IntKind.i64.wrap (x2 - 1) - IntKind.i64.wrap (r64.fst.fst - x1)), ())   (r65.snd.fst, ())).bind fun r88 =>
        cond (decide (IntKind.i64.wrap (r88.fst.fst - x1) < IntKind.i64.wrap (x2 - r88.fst.fst)))
        ((F_slices_pdqsortOrdered_uint64 (x1, r88.fst.fst, x3, ()) (r88.snd.fst, ())).bind fun r89 =>
         kn (IntKind.i64.wrap (r88.fst.fst + 1), (x2, (x3, (decide (IntKind.i64.wrap (r88.fst.fst - x1) ≥ IntKind.i64.wrap ((IntKind.i64.wrap (x2 - x1)).tdiv 8)), (r88.fst.snd.fst, ()))))) (r89.snd.fst, ()))
        ((F_slices_pdqsortOrdered_uint64 (IntKind.i64.wrap (r88.fst.fst + 1), x2, x3, ()) (r88.snd.fst, ())).bind fun r90 =>
         kn (x1, (r88.fst.fst, (x3, (decide (IntKind.i64.wrap (x2 - r88.fst.fst) ≥ IntKind.i64.wrap ((IntKind.i64.wrap (x2 - x1)).tdiv 8)), (r88.fst.snd.fst, ()))))) (r90.snd.fst, ())))))
     (cond (x4)
      (cond (x5)
       (cond (r64.fst.snd.fst == 1)
        ((F_slices_partialInsertionSortOrdered_uint64 (x1, x2, ()) (r64.snd.fst, ())).bind fun r91 =>
         cond (r91.fst)
         (kr ((), (r91.snd.fst, ())))
         (cond (decide (x1 > 0))
          (cond (decide (0 ≤ IntKind.i64.wrap (x1 - 1)))
           (cond (decide (IntKind.i64.wrap (x1 - 1) < (↑r91.snd.fst.length : Int)))
            (cond (decide (0 ≤ r64.fst.fst))
             (cond (decide (r64.fst.fst < (↑r91.snd.fst.length : Int)))
              ((F_cmp_Less_uint64   (r91.snd.fst.getD (0 + (IntKind.i64.wrap (x1 - 1)).toNat) 0, r91.snd.fst.getD (0 + r64.fst.fst.toNat) 0, ()) ()).bind fun r92 =>
               cond (!r92.fst)
               ((F_slices_partitionEqualOrdered_uint64 (x1, x2, r64.fst.fst, ()) (r91.snd.fst, ())).bind fun r93 =>
                kn (r93.fst, (x2, (x3, (x4, (x5, ()))))) (r93.snd.fst, ()))
               ((F_slices_partitionOrdered_uint64 (x1, x2, r64.fst.fst, ()) (r91.snd.fst, ())).bind fun r94 =>
                cond (decide (IntKind.i64.wrap (r94.fst.fst - x1) < IntKind.i64.wrap (x2 - r94.fst.fst)))
                ((F_slices_pdqsortOrdered_uint64 (x1, r94.fst.fst, x3, ()) (r94.snd.fst, ())).bind fun r95 =>
                 kn (IntKind.i64.wrap (r94.fst.fst + 1), (x2, (x3, (decide (IntKind.i64.wrap (r94.fst.fst - x1) ≥ IntKind.i64.wrap ((IntKind.i64.wrap (x2 - x1)).tdiv 8)), (r94.fst.snd.fst, ()))))) (r95.snd.fst, ()))
                ((F_slices_pdqsortOrdered_uint64 (IntKind.i64.wrap (r94.fst.fst + 1), x2, x3, ()) (r94.snd.fst, ())).bind fun r96 =>
                 kn (x1, (r94.fst.fst, (x3, (decide (IntKind.i64.wrap (x2 - r94.fst.fst) ≥ IntKind.i64.wrap ((IntKind.i64.wrap (x2 - x1)).tdiv 8)), (r94.fst.snd.fst, ()))))) (r96.snd.fst, ()))))
              (none))
             (none))
            (none))
           (none))
          ((F_slices_partitionOrdered_uint64 (x1, x2, r64.fst.fst, ()) (r91.snd.fst, ())).bind fun r97 =>
           cond (decide (IntKind.i64.wrap (r97.fst.fst - x1) < IntKind.i64.wrap (x2 - r97.fst.fst)))
           ((F_slices_pdqsortOrdered_uint64 (x1, r97.fst.fst, x3, ()) (r97.snd.fst, ())).bind fun r98 =>
            kn (IntKind.i64.wrap (r97.fst.fst + 1), (x2, (x3, (decide (IntKind.i64.wrap (r97.fst.fst - x1) ≥ IntKind.i64.wrap ((IntKind.i64.wrap (x2 - x1)).tdiv 8)), (r97.fst.snd.fst, ()))))) (r98.snd.fst, ()))
           ((F_slices_pdqsortOrdered_uint64 (IntKind.i64.wrap (r97.fst.fst + 1), x2, x3, ()) (r97.snd.fst, ())).bind fun r99 =>
            kn (x1, (r97.fst.fst, (x3, (decide (IntKind.i64.wrap (x2 - r97.fst.fst) ≥ IntKind.i64.wrap ((IntKind.i64.wrap (x2 - x1)).tdiv 8)), (r97.fst.snd.fst, ()))))) (r99.snd.fst, ())))))
        (cond (decide (x1 > 0))
         (cond (decide (0 ≤ IntKind.i64.wrap (x1 - 1)))
          (cond (decide (IntKind.i64.wrap (x1 - 1) < (↑r64.snd.fst.length : Int)))
           (cond (decide (0 ≤ r64.fst.fst))
            (cond (decide (r64.fst.fst < (↑r64.snd.fst.length : Int)))
             ((F_cmp_Less_uint64   (r64.snd.fst.getD (0 + (IntKind.i64.wrap (x1 - 1)).toNat) 0, r64.snd.fst.getD (0 + r64.fst.fst.toNat) 0, ()) ()).bind fun r100 =>
              cond (!r100.fst)
              ((F_slices_partitionEqualOrdered_uint64 (x1, x2, r64.fst.fst, ()) (r64.snd.fst, ())).bind fun r101 =>
               kn (r101.fst, (x2, (x3, (x4, (x5, ()))))) (r101.snd.fst, ()))
              ((F_slices_partitionOrdered_uint64 (x1, x2, r64.fst.fst, ()) (r64.snd.fst, ())).bind fun r102 =>
               cond (decide (IntKind.i64.wrap (r102.fst.fst - x1) < IntKind.i64.wrap (x2 - r102.fst.fst)))
               ((F_slices_pdqsortOrdered_uint64 (x1, r102.fst.fst, x3, ()) (r102.snd.fst, ())).bind fun r103 =>
                kn (IntKind.i64.wrap (r102.fst.fst + 1), (x2, (x3, (decide   (IntKind.i64.wrap (r102.fst.fst - x1) ≥ IntKind.i64.wrap ((IntKind.i64.wrap (x2 - x1)).tdiv 8)), (r102.fst.snd.fst, ()))))) (r103.snd.fst, ()))
               ((F_slices_pdqsortOrdered_uint64 (IntKind.i64.wrap (r102.fst.fst + 1), x2, x3, ()) (r102.snd.fst, ())).bind fun r104 =>
                kn (x1, (r102.fst.fst, (x3, (decide   (IntKind.i64.wrap (x2 - r102.fst.fst) ≥ IntKind.i64.wrap ((IntKind.i64.wrap (x2 - x1)).tdiv 8)), (r102.fst.snd.fst, ()))))) (r104.snd.fst, ()))))
             (none))
            (none))
           (none))
          (none))
         ((F_slices_partitionOrdered_uint64 (x1, x2, r64.fst.fst, ()) (r64.snd.fst, ())).bind fun r105 =>
          cond (decide (IntKind.i64.wrap (r105.fst.fst - x1) < IntKind.i64.wrap (x2 - r105.fst.fst)))
          ((F_slices_pdqsortOrdered_uint64 (x1, r105.fst.fst, x3, ()) (r105.snd.fst, ())).bind fun r106 =>
           kn (IntKind.i64.wrap (r105.fst.fst + 1), (x2, (x3, (decide   (IntKind.i64.wrap (r105.fst.fst - x1) ≥ IntKind.i64.wrap ((IntKind.i64.wrap (x2 - x1)).tdiv 8)), (r105.fst.snd.fst, ()))))) (r106.snd.fst, ()))
          ((F_slices_pdqsortOrdered_uint64 (IntKind.i64.wrap (r105.fst.fst + 1), x2, x3, ()) (r105.snd.fst, ())).bind fun r107 =>
           kn (x1, (r105.fst.fst, (x3, (decide   (IntKind.i64.wrap (x2 - r105.fst.fst) ≥ IntKind.i64.wrap ((IntKind.i64.wrap (x2 - x1)).tdiv 8)), (r105.fst.snd.fst, ()))))) (r107.snd.fst, ())))))
       (cond (decide (x1 > 0))
        (cond (decide (0 ≤ IntKind.i64.wrap (x1 - 1)))
         (cond (decide (IntKind.i64.wrap (x1 - 1) < (↑r64.snd.fst.length : Int)))
          (cond (decide (0 ≤ r64.fst.fst))
           (cond (decide (r64.fst.fst < (↑r64.snd.fst.length : Int)))
            ((F_cmp_Less_uint64   (r64.snd.fst.getD (0 + (IntKind.i64.wrap (x1 - 1)).toNat) 0, r64.snd.fst.getD (0 + r64.fst.fst.toNat) 0, ()) ()).bind fun r108 =>
             cond (!r108.fst)
             ((F_slices_partitionEqualOrdered_uint64 (x1, x2, r64.fst.fst, ()) (r64.snd.fst, ())).bind fun r109 =>
              kn (r109.fst, (x2, (x3, (x4, (x5, ()))))) (r109.snd.fst, ()))
             ((F_slices_partitionOrdered_uint64 (x1, x2, r64.fst.fst, ()) (r64.snd.fst, ())).bind fun r110 =>
              cond (decide (IntKind.i64.wrap (r110.fst.fst - x1) < IntKind.i64.wrap (x2 - r110.fst.fst)))
              ((F_slices_pdqsortOrdered_uint64 (x1, r110.fst.fst, x3, ()) (r110.snd.fst, ())).bind fun r111 =>
               kn (IntKind.i64.wrap (r110.fst.fst + 1), (x2, (x3, (decide   (IntKind.i64.wrap (r110.fst.fst - x1) ≥ IntKind.i64.wrap ((IntKind.i64.wrap (x2 - x1)).tdiv 8)), (r110.fst.snd.fst, ()))))) (r111.snd.fst, ()))
              ((F_slices_pdqsortOrdered_uint64 (IntKind.i64.wrap (r110.fst.fst + 1), x2, x3, ()) (r110.snd.fst, ())).bind fun r112 =>
               kn (x1, (r110.fst.fst, (x3, (decide   (IntKind.i64.wrap (x2 - r110.fst.fst) ≥ IntKind.i64.wrap ((IntKind.i64.wrap (x2 - x1)).tdiv 8)), (r110.fst.snd.fst, ()))))) (r112.snd.fst, ()))))
            (none))
           (none))
          (none))
         (none))
        ((F_slices_partitionOrdered_uint64 (x1, x2, r64.fst.fst, ()) (r64.snd.fst, ())).bind fun r113 =>
         cond (decide (IntKind.i64.wrap (r113.fst.fst - x1) < IntKind.i64.wrap (x2 - r113.fst.fst)))
         ((F_slices_pdqsortOrdered_uint64 (x1, r113.fst.fst, x3, ()) (r113.snd.fst, ())).bind fun r114 =>
          kn (IntKind.i64.wrap (r113.fst.fst + 1), (x2, (x3, (decide   (IntKind.i64.wrap (r113.fst.fst - x1) ≥ IntKind.i64.wrap ((IntKind.i64.wrap (x2 - x1)).tdiv 8)), (r113.fst.snd.fst, ()))))) (r114.snd.fst, ()))
         ((F_slices_pdqsortOrdered_uint64 (IntKind.i64.wrap (r113.fst.fst + 1), x2, x3, ()) (r113.snd.fst, ())).bind fun r115 =>
          kn (x1, (r113.fst.fst, (x3, (decide   (IntKind.i64.wrap (x2 - r113.fst.fst) ≥ IntKind.i64.wrap ((IntKind.i64.wrap (x2 - x1)).tdiv 8)), (r113.fst.snd.fst, ()))))) (r115.snd.fst, ())))))
      (cond (decide (x1 > 0))
       (cond (decide (0 ≤ IntKind.i64.wrap (x1 - 1)))
        (cond (decide (IntKind.i64.wrap (x1 - 1) < (↑r64.snd.fst.length : Int)))
         (cond (decide (0 ≤ r64.fst.fst))
          (cond (decide (r64.fst.fst < (↑r64.snd.fst.length : Int)))
           ((F_cmp_Less_uint64   (r64.snd.fst.getD (0 + (IntKind.i64.wrap (x1 - 1)).toNat) 0, r64.snd.fst.getD (0 + r64.fst.fst.toNat) 0, ()) ()).bind fun r116 =>
            cond (!r116.fst)
            ((F_slices_partitionEqualOrdered_uint64 (x1, x2, r64.fst.fst, ()) (r64.snd.fst, ())).bind fun r117 =>
             kn (r117.fst, (x2, (x3, (x4, (x5, ()))))) (r117.snd.fst, ()))
            ((F_slices_partitionOrdered_uint64 (x1, x2, r64.fst.fst, ()) (r64.snd.fst, ())).bind fun r118 =>
             cond (decide (IntKind.i64.wrap (r118.fst.fst - x1) < IntKind.i64.wrap (x2 - r118.fst.fst)))
             ((F_slices_pdqsortOrdered_uint64 (x1, r118.fst.fst, x3, ()) (r118.snd.fst, ())).bind fun r119 =>
              kn (IntKind.i64.wrap (r118.fst.fst + 1), (x2, (x3, (decide   (IntKind.i64.wrap (r118.fst.fst - x1) ≥ IntKind.i64.wrap ((IntKind.i64.wrap (x2 - x1)).tdiv 8)), (r118.fst.snd.fst, ()))))) (r119.snd.fst, ()))
             ((F_slices_pdqsortOrdered_uint64 (IntKind.i64.wrap (r118.fst.fst + 1), x2, x3, ()) (r118.snd.fst, ())).bind fun r120 =>
              kn (x1, (r118.fst.fst, (x3, (decide   (IntKind.i64.wrap (x2 - r118.fst.fst) ≥ IntKind.i64.wrap ((IntKind.i64.wrap (x2 - x1)).tdiv 8)), (r118.fst.snd.fst, ()))))) (r120.snd.fst, ()))))
           (none))
          (none))
         (none))
        (none))
       ((F_slices_partitionOrdered_uint64 (x1, x2, r64.fst.fst, ()) (r64.snd.fst, ())).bind fun r121 =>
        cond (decide (IntKind.i64.wrap (r121.fst.fst - x1) < IntKind.i64.wrap (x2 - r121.fst.fst)))
        ((F_slices_pdqsortOrdered_uint64 (x1, r121.fst.fst, x3, ()) (r121.snd.fst, ())).bind fun r122 =>
         kn (IntKind.i64.wrap (r121.fst.fst + 1), (x2, (x3, (decide   (IntKind.i64.wrap (r121.fst.fst - x1) ≥ IntKind.i64.wrap ((IntKind.i64.wrap (x2 - x1)).tdiv 8)), (r121.fst.snd.fst, ()))))) (r122.snd.fst, ()))
        ((F_slices_pdqsortOrdered_uint64 (IntKind.i64.wrap (r121.fst.fst + 1), x2, x3, ()) (r121.snd.fst, ())).bind fun r123 =>
         kn (x1, (r121.fst.fst, (x3, (decide   (IntKind.i64.wrap (x2 - r121.fst.fst) ≥ IntKind.i64.wrap ((IntKind.i64.wrap (x2 - x1)).tdiv 8)), (r121.fst.snd.fst, ()))))) (r123.snd.fst, ()))))))))
noncomputable def L_slices_pdqsortOrdered_uint64_2 (F_slices_pdqsortOrdered_uint64 : A_slices_pdqsortOrdered_uint64 → M_slices_pdqsortOrdered_uint64 → Option O_slices_pdqsortOrdered_uint64) : LT_slices_pdqsortOrdered_uint64_2 → LM_slices_pdqsortOrdered_uint64_2 → Option LO_slices_pdqsortOrdered_uint64_2 := fun x y => runL (fun p => (fun (a : LT_slices_pdqsortOrdered_uint64_2) (b : LM_slices_pdqsortOrdered_uint64_2) => ltree_slices_pdqsortOrdered_uint64_2 F_slices_insertionSortOrdered_uint64 F_slices_heapSortOrdered_uint64 F_slices_breakPatternsOrdered_uint64 F_slices_choosePivotOrdered_uint64 F_slices_reverseRangeOrdered_uint64 F_slices_partialInsertionSortOrdered_uint64 F_cmp_Less_uint64 F_slices_partitionEqualOrdered_uint64 F_slices_partitionOrdered_uint64 F_slices_pdqsortOrdered_uint64 a.1 a.2.1 a.2.2.1 a.2.2.2.1 a.2.2.2.2.1 b.1 (fun a' b' => some (.inl (a', b'))) fun r => some (.inr r)) p.1 p.2) (x, y)
theorem nl_slices_pdqsortOrdered_uint64_2 (F_slices_insertionSortOrdered_uint64 : A_slices_insertionSortOrdered_uint64 → M_slices_insertionSortOrdered_uint64 → Option O_slices_insertionSortOrdered_uint64) (F_slices_heapSortOrdered_uint64 : A_slices_heapSortOrdered_uint64 → M_slices_heapSortOrdered_uint64 → Option O_slices_heapSortOrdered_uint64) (F_slices_breakPatternsOrdered_uint64 : A_slices_breakPatternsOrdered_uint64 → M_slices_breakPatternsOrdered_uint64 → Option O_slices_breakPatternsOrdered_uint64) (F_slices_choosePivotOrdered_uint64 : A_slices_choosePivotOrdered_uint64 → M_slices_choosePivotOrdered_uint64 → Option O_slices_choosePivotOrdered_uint64) (F_slices_reverseRangeOrdered_uint64 : A_slices_reverseRangeOrdered_uint64 → M_slices_reverseRangeOrdered_uint64 → Option O_slices_reverseRangeOrdered_uint64) (F_slices_partialInsertionSortOrdered_uint64 : A_slices_partialInsertionSortOrdered_uint64 → M_slices_partialInsertionSortOrdered_uint64 → Option O_slices_partialInsertionSortOrdered_uint64) (F_cmp_Less_uint64 : A_cmp_Less_uint64 → M_cmp_Less_uint64 → Option O_cmp_Less_uint64) (F_slices_partitionEqualOrdered_uint64 : A_slices_partitionEqualOrdered_uint64 → M_slices_partitionEqualOrdered_uint64 → Option O_slices_partitionEqualOrdered_uint64) (F_slices_partitionOrdered_uint64 : A_slices_partitionOrdered_uint64 → M_slices_partitionOrdered_uint64 → Option O_slices_partitionOrdered_uint64) (F_slices_pdqsortOrdered_uint64 : A_slices_pdqsortOrdered_uint64 → M_slices_pdqsortOrdered_uint64 → Option O_slices_pdqsortOrdered_uint64) (x1 : Int) (x2 : Int) (x3 : Int) (x4 : Bool) (x5 : Bool) (x6 : List Int) {α : Type} (kn : LT_slices_pdqsortOrdered_uint64_2 → LM_slices_pdqsortOrdered_uint64_2 → Option α) (kr : LO_slices_pdqsortOrdered_uint64_2 → Option α) : ltree_slices_pdqsortOrdered_uint64_2 F_slices_insertionSortOrdered_uint64 F_slices_heapSortOrdered_uint64 F_slices_breakPatternsOrdered_uint64 F_slices_choosePivotOrdered_uint64 F_slices_reverseRangeOrdered_uint64 F_slices_partialInsertionSortOrdered_uint64 F_cmp_Less_uint64 F_slices_partitionEqualOrdered_uint64 F_slices_partitionOrdered_uint64 F_slices_pdqsortOrdered_uint64 x1 x2 x3 x4 x5 x6 kn kr = (ltree_slices_pdqsortOrdered_uint64_2 F_slices_insertionSortOrdered_uint64 F_slices_heapSortOrdered_uint64 F_slices_breakPatternsOrdered_uint64 F_slices_choosePivotOrdered_uint64 F_slices_reverseRangeOrdered_uint64 F_slices_partialInsertionSortOrdered_uint64 F_cmp_Less_uint64 F_slices_partitionEqualOrdered_uint64 F_slices_partitionOrdered_uint64 F_slices_pdqsortOrdered_uint64 x1 x2 x3 x4 x5 x6 (fun a b => some (.inl (a, b))) fun r => some (.inr r)).bind (Sum.elim (fun p : LT_slices_pdqsortOrdered_uint64_2 × LM_slices_pdqsortOrdered_uint64_2 => kn p.1 p.2) kr) := by simp only [ltree_slices_pdqsortOrdered_uint64_2, bind_cond, bind_none', bind_some', bind_bind', bind_sum, Sum.elim_inl, Sum.elim_inr]
theorem Le_slices_pdqsortOrdered_uint64_2 (F_slices_pdqsortOrdered_uint64 : A_slices_pdqsortOrdered_uint64 → M_slices_pdqsortOrdered_uint64 → Option O_slices_pdqsortOrdered_uint64) (x1 : Int) (x2 : Int) (x3 : Int) (x4 : Bool) (x5 : Bool) (x6 : List Int) : (L_slices_pdqsortOrdered_uint64_2 F_slices_pdqsortOrdered_uint64) (x1, (x2, (x3, (x4, (x5, ()))))) (x6, ()) = ltree_slices_pdqsortOrdered_uint64_2 F_slices_insertionSortOrdered_uint64 F_slices_heapSortOrdered_uint64 F_slices_breakPatternsOrdered_uint64 F_slices_choosePivotOrdered_uint64 F_slices_reverseRangeOrdered_uint64 F_slices_partialInsertionSortOrdered_uint64 F_cmp_Less_uint64 F_slices_partitionEqualOrdered_uint64 F_slices_partitionOrdered_uint64 F_slices_pdqsortOrdered_uint64 x1 x2 x3 x4 x5 x6 (L_slices_pdqsortOrdered_uint64_2 F_slices_pdqsortOrdered_uint64) some := runL_tree (A := LT_slices_pdqsortOrdered_uint64_2) (B := LM_slices_pdqsortOrdered_uint64_2) (R := LO_slices_pdqsortOrdered_uint64_2) (fun a b kn kr => ltree_slices_pdqsortOrdered_uint64_2 F_slices_insertionSortOrdered_uint64 F_slices_heapSortOrdered_uint64 F_slices_breakPatternsOrdered_uint64 F_slices_choosePivotOrdered_uint64 F_slices_reverseRangeOrdered_uint64 F_slices_partialInsertionSortOrdered_uint64 F_cmp_Less_uint64 F_slices_partitionEqualOrdered_uint64 F_slices_partitionOrdered_uint64 F_slices_pdqsortOrdered_uint64 a.1 a.2.1 a.2.2.1 a.2.2.2.1 a.2.2.2.2.1 b.1 kn kr) (fun a b kn kr => nl_slices_pdqsortOrdered_uint64_2 F_slices_insertionSortOrdered_uint64 F_slices_heapSortOrdered_uint64 F_slices_breakPatternsOrdered_uint64 F_slices_choosePivotOrdered_uint64 F_slices_reverseRangeOrdered_uint64 F_slices_partialInsertionSortOrdered_uint64 F_cmp_Less_uint64 F_slices_partitionEqualOrdered_uint64 F_slices_partitionOrdered_uint64 F_slices_pdqsortOrdered_uint64 a.1 a.2.1 a.2.2.1 a.2.2.2.1 a.2.2.2.2.1 b.1 kn kr) (x1, (x2, (x3, (x4, (x5, ()))))) (x6, ())
def tree_slices_pdqsortOrdered_uint64 (L_slices_pdqsortOrdered_uint64_2 : LT_slices_pdqsortOrdered_uint64_2 → LM_slices_pdqsortOrdered_uint64_2 → Option LO_slices_pdqsortOrdered_uint64_2) {α : Type} (x1 : Int) (x2 : Int) (x3 : Int) (x4 : List Int) (K : O_slices_pdqsortOrdered_uint64 → Option α) : Option α :=
  (L_slices_pdqsortOrdered_uint64_2 (x1, x2, x3, Bool.true, Bool.true, ()) (x4, ())).bind fun r1 =>
  K ((), (r1.snd.fst, ()))
noncomputable def Frec_slices_pdqsortOrdered_uint64 : Nat → A_slices_pdqsortOrdered_uint64 → M_slices_pdqsortOrdered_uint64 → Option O_slices_pdqsortOrdered_uint64
  | 0 => fun _ _ => none
  | k + 1 => fun a b => tree_slices_pdqsortOrdered_uint64 (L_slices_pdqsortOrdered_uint64_2 (Frec_slices_pdqsortOrdered_uint64 k)) a.1 a.2.1 a.2.2.1 b.1 some
noncomputable def F_slices_pdqsortOrdered_uint64 : A_slices_pdqsortOrdered_uint64 → M_slices_pdqsortOrdered_uint64 → Option O_slices_pdqsortOrdered_uint64 := Frec_slices_pdqsortOrdered_uint64 70
theorem n_slices_pdqsortOrdered_uint64 (L_slices_pdqsortOrdered_uint64_2 : LT_slices_pdqsortOrdered_uint64_2 → LM_slices_pdqsortOrdered_uint64_2 → Option LO_slices_pdqsortOrdered_uint64_2) (x1 : Int) (x2 : Int) (x3 : Int) (x4 : List Int) {α : Type} (K : O_slices_pdqsortOrdered_uint64 → Option α) : tree_slices_pdqsortOrdered_uint64 L_slices_pdqsortOrdered_uint64_2 x1 x2 x3 x4 K = (tree_slices_pdqsortOrdered_uint64 L_slices_pdqsortOrdered_uint64_2 x1 x2 x3 x4 some).bind K := by simp only [tree_slices_pdqsortOrdered_uint64, bind_cond, bind_none', bind_some', bind_bind', bind_sum]
theorem Fe_slices_pdqsortOrdered_uint64 (k : Nat) (x1 : Int) (x2 : Int) (x3 : Int) (x4 : List Int) : Frec_slices_pdqsortOrdered_uint64 (k + 1) (x1, (x2, (x3, ()))) (x4, ()) = tree_slices_pdqsortOrdered_uint64 (L_slices_pdqsortOrdered_uint64_2 (Frec_slices_pdqsortOrdered_uint64 k)) x1 x2 x3 x4 some := rfl
def args_slices_Sort_uint64 : SkL := (.cons (.const (.slw 0)) .nil)
def mem_slices_Sort_uint64 : MSk := [(0, .row 22 (.cons (.int .u64) .nil))]
def outs_slices_Sort_uint64 : List OutC := [⟨(.tup .nil), [(0, .row 22 (.cons (.int .u64) .nil))]⟩]
abbrev A_slices_Sort_uint64 : Type := Unit
abbrev M_slices_Sort_uint64 : Type := (List Int × Unit)
abbrev O_slices_Sort_uint64 : Type := Unit × (List Int × Unit)
def tree_slices_Sort_uint64 (F_bits_Len : A_bits_Len → M_bits_Len → Option O_bits_Len) (F_slices_pdqsortOrdered_uint64 : A_slices_pdqsortOrdered_uint64 → M_slices_pdqsortOrdered_uint64 → Option O_slices_pdqsortOrdered_uint64) {α : Type} (x1 : List Int) (K : O_slices_Sort_uint64 → Option α) : Option α :=
  (F_bits_Len (IntKind.u64.wrap (↑x1.length : Int), ()) ()).bind fun r1 =>
  (F_slices_pdqsortOrdered_uint64 (0, (↑x1.length : Int), r1.fst, ()) (x1, ())).bind fun r2 =>
  K ((), (r2.snd.fst, ()))
noncomputable def F_slices_Sort_uint64 : A_slices_Sort_uint64 → M_slices_Sort_uint64 → Option O_slices_Sort_uint64 := fun a b => tree_slices_Sort_uint64 F_bits_Len F_slices_pdqsortOrdered_uint64 b.1 some
theorem n_slices_Sort_uint64 (F_bits_Len : A_bits_Len → M_bits_Len → Option O_bits_Len) (F_slices_pdqsortOrdered_uint64 : A_slices_pdqsortOrdered_uint64 → M_slices_pdqsortOrdered_uint64 → Option O_slices_pdqsortOrdered_uint64) (x1 : List Int) {α : Type} (K : O_slices_Sort_uint64 → Option α) : tree_slices_Sort_uint64 F_bits_Len F_slices_pdqsortOrdered_uint64 x1 K = (tree_slices_Sort_uint64 F_bits_Len F_slices_pdqsortOrdered_uint64 x1 some).bind K := by simp only [tree_slices_Sort_uint64, bind_cond, bind_none', bind_some', bind_bind', bind_sum]
theorem Fe_slices_Sort_uint64 (x1 : List Int) : F_slices_Sort_uint64 () (x1, ()) = tree_slices_Sort_uint64 F_bits_Len F_slices_pdqsortOrdered_uint64 x1 some := rfl
end Go.Proofs.Ytgakbdikappdbaa.S2
