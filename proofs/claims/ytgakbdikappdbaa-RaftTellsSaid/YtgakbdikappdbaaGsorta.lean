/- Plain forms of the program's functions, by program. -/
import Derived.Test.YtgakbdikappdbaaS2y
set_option maxRecDepth 100000
set_option maxHeartbeats 0
set_option linter.unusedVariables false
set_option linter.unusedSimpArgs false
namespace Go.Proofs.Ytgakbdikappdbaa.S2
open Go
def args_cmp_isNaN_uint64 : SkL := (.cons (.leaf (.int .u64)) .nil)
def mem_cmp_isNaN_uint64 : MSk := []
def outs_cmp_isNaN_uint64 : List OutC := [⟨(.leaf .bool), []⟩]
abbrev A_cmp_isNaN_uint64 : Type := (Int × Unit)
abbrev M_cmp_isNaN_uint64 : Type := Unit
abbrev O_cmp_isNaN_uint64 : Type := Bool × Unit
def tree_cmp_isNaN_uint64 {α : Type} (x1 : Int) (K : O_cmp_isNaN_uint64 → Option α) : Option α :=
  K (x1 != x1, ())
noncomputable def F_cmp_isNaN_uint64 : A_cmp_isNaN_uint64 → M_cmp_isNaN_uint64 → Option O_cmp_isNaN_uint64 := fun a b => tree_cmp_isNaN_uint64 a.1 some
theorem n_cmp_isNaN_uint64 (x1 : Int) {α : Type} (K : O_cmp_isNaN_uint64 → Option α) : tree_cmp_isNaN_uint64 x1 K = (tree_cmp_isNaN_uint64 x1 some).bind K := by simp only [tree_cmp_isNaN_uint64, bind_cond, bind_none', bind_some', bind_bind', bind_sum]
theorem Fe_cmp_isNaN_uint64 (x1 : Int) : F_cmp_isNaN_uint64 (x1, ()) () = tree_cmp_isNaN_uint64 x1 some := rfl
def args_cmp_Less_uint64 : SkL := (.cons (.leaf (.int .u64)) (.cons (.leaf (.int .u64)) .nil))
def mem_cmp_Less_uint64 : MSk := []
def outs_cmp_Less_uint64 : List OutC := [⟨(.leaf .bool), []⟩]
abbrev A_cmp_Less_uint64 : Type := (Int × Int × Unit)
abbrev M_cmp_Less_uint64 : Type := Unit
abbrev O_cmp_Less_uint64 : Type := Bool × Unit
def tree_cmp_Less_uint64 (F_cmp_isNaN_uint64 : A_cmp_isNaN_uint64 → M_cmp_isNaN_uint64 → Option O_cmp_isNaN_uint64) {α : Type} (x1 : Int) (x2 : Int) (K : O_cmp_Less_uint64 → Option α) : Option α :=
  (F_cmp_isNaN_uint64 (x1, ()) ()).bind fun r1 =>
  cond (r1.fst)
  ((F_cmp_isNaN_uint64 (x2, ()) ()).bind fun r2 =>
   cond (!r2.fst)
   (K (true, ()))
   (K (decide (x1 < x2), ())))
  (K (decide (x1 < x2), ()))
noncomputable def F_cmp_Less_uint64 : A_cmp_Less_uint64 → M_cmp_Less_uint64 → Option O_cmp_Less_uint64 := fun a b => tree_cmp_Less_uint64 F_cmp_isNaN_uint64 a.1 a.2.1 some
theorem n_cmp_Less_uint64 (F_cmp_isNaN_uint64 : A_cmp_isNaN_uint64 → M_cmp_isNaN_uint64 → Option O_cmp_isNaN_uint64) (x1 : Int) (x2 : Int) {α : Type} (K : O_cmp_Less_uint64 → Option α) : tree_cmp_Less_uint64 F_cmp_isNaN_uint64 x1 x2 K = (tree_cmp_Less_uint64 F_cmp_isNaN_uint64 x1 x2 some).bind K := by simp only [tree_cmp_Less_uint64, bind_cond, bind_none', bind_some', bind_bind', bind_sum]
theorem Fe_cmp_Less_uint64 (x1 : Int) (x2 : Int) : F_cmp_Less_uint64 (x1, (x2, ())) () = tree_cmp_Less_uint64 F_cmp_isNaN_uint64 x1 x2 some := rfl
def args_slices_insertionSortOrdered_uint64 : SkL := (.cons (.const (.slw 0)) (.cons (.leaf (.int .i64)) (.cons (.leaf (.int .i64)) .nil)))
def mem_slices_insertionSortOrdered_uint64 : MSk := [(0, .row 22 (.cons (.int .u64) .nil))]
def outs_slices_insertionSortOrdered_uint64 : List OutC := [⟨(.tup .nil), [(0, .row 22 (.cons (.int .u64) .nil))]⟩]
abbrev A_slices_insertionSortOrdered_uint64 : Type := (Int × Int × Unit)
abbrev M_slices_insertionSortOrdered_uint64 : Type := (List Int × Unit)
abbrev O_slices_insertionSortOrdered_uint64 : Type := Unit × (List Int × Unit)
def ltmps_slices_insertionSortOrdered_uint64_4 : SkL := (.cons (.const (.slw 0)) (.cons (.leaf (.int .i64)) (.cons (.leaf (.int .i64)) (dz 3 (.cons (.leaf (.int .i64)) (.cons (.leaf (.int .i64)) (dz 41 .nil)))))))
def lmem_slices_insertionSortOrdered_uint64_4 : MSk := [(0, .row 22 (.cons (.int .u64) .nil))]
def louts_slices_insertionSortOrdered_uint64_4 : List OutL := [⟨(.exit 2), (.cons (.const (.slw 0)) (.cons (.leaf (.int .i64)) (.cons (.leaf (.int .i64)) (dz 3 (.cons (.leaf (.int .i64)) (dz 42 .nil)))))), [(0, .row 22 (.cons (.int .u64) .nil))]⟩]
abbrev LT_slices_insertionSortOrdered_uint64_4 : Type := (Int × Int × Int × Int × Unit)
abbrev LM_slices_insertionSortOrdered_uint64_4 : Type := (List Int × Unit)
abbrev LO_slices_insertionSortOrdered_uint64_4 : Type := (Int × Int × Int × Unit) × (List Int × Unit)
def ltree_slices_insertionSortOrdered_uint64_4 (F_cmp_Less_uint64 : A_cmp_Less_uint64 → M_cmp_Less_uint64 → Option O_cmp_Less_uint64) {α : Type} (x1 : Int) (x2 : Int) (x3 : Int) (x4 : Int) (x5 : List Int) (kn : LT_slices_insertionSortOrdered_uint64_4 → LM_slices_insertionSortOrdered_uint64_4 → Option α) (kr : LO_slices_insertionSortOrdered_uint64_4 → Option α) : Option α :=
  cond (decide (x4 > x1))
  (cond (decide (0 ≤ x4))
   (cond (decide (x4 < (↑x5.length : Int)))
    (cond (decide (0 ≤ IntKind.i64.wrap (x4 - 1)))
     (cond (decide (IntKind.i64.wrap (x4 - 1) < (↑x5.length : Int)))
      ((F_cmp_Less_uint64 (x5.getD (0 + x4.toNat) 0, x5.getD (0 + (IntKind.i64.wrap (x4 - 1)).toNat) 0, ())   ()).bind fun r1 =>
       cond (r1.fst)
       (cond (decide (0 ≤ IntKind.i64.wrap (x4 - 1)))
        (cond (decide (IntKind.i64.wrap (x4 - 1) < (↑x5.length : Int)))
         (cond (decide (0 ≤ x4))
          (cond (decide (x4 < (↑x5.length : Int)))
           (cond (decide (0 ≤ x4))
            (cond (decide (x4 < (↑x5.length : Int)))
             (cond (decide (0 ≤ IntKind.i64.wrap (x4 - 1)))
              (cond (decide   (IntKind.i64.wrap (x4 - 1) <     (↑(x5.set (0 + x4.toNat) (x5.getD (0 + (IntKind.i64.wrap (x4 - 1)).toNat) 0)).length : Int)))
               (kn (x1, (x2, (x3, (IntKind.i64.wrap (x4 - 1), ())))) ((x5.set (0 + x4.toNat) (x5.getD (0 + (IntKind.i64.wrap (x4 - 1)).toNat) 0)).set   (0 + (IntKind.i64.wrap (x4 - 1)).toNat) (x5.getD (0 + x4.toNat) 0), ()))
               (none))
              (none))
             (none))
            (none))
           (none))
          (none))
         (none))
        (none))
       (kr ((x1, (x2, (x3, ()))), (x5, ()))))
      (none))
     (none))
    (none))
   (none))
  (kr ((x1, (x2, (x3, ()))), (x5, ())))
noncomputable def L_slices_insertionSortOrdered_uint64_4 : LT_slices_insertionSortOrdered_uint64_4 → LM_slices_insertionSortOrdered_uint64_4 → Option LO_slices_insertionSortOrdered_uint64_4 := fun x y => runL (fun p => (fun (a : LT_slices_insertionSortOrdered_uint64_4) (b : LM_slices_insertionSortOrdered_uint64_4) => ltree_slices_insertionSortOrdered_uint64_4 F_cmp_Less_uint64 a.1 a.2.1 a.2.2.1 a.2.2.2.1 b.1 (fun a' b' => some (.inl (a', b'))) fun r => some (.inr r)) p.1 p.2) (x, y)
theorem nl_slices_insertionSortOrdered_uint64_4 (F_cmp_Less_uint64 : A_cmp_Less_uint64 → M_cmp_Less_uint64 → Option O_cmp_Less_uint64) (x1 : Int) (x2 : Int) (x3 : Int) (x4 : Int) (x5 : List Int) {α : Type} (kn : LT_slices_insertionSortOrdered_uint64_4 → LM_slices_insertionSortOrdered_uint64_4 → Option α) (kr : LO_slices_insertionSortOrdered_uint64_4 → Option α) : ltree_slices_insertionSortOrdered_uint64_4 F_cmp_Less_uint64 x1 x2 x3 x4 x5 kn kr = (ltree_slices_insertionSortOrdered_uint64_4 F_cmp_Less_uint64 x1 x2 x3 x4 x5 (fun a b => some (.inl (a, b))) fun r => some (.inr r)).bind (Sum.elim (fun p : LT_slices_insertionSortOrdered_uint64_4 × LM_slices_insertionSortOrdered_uint64_4 => kn p.1 p.2) kr) := by simp only [ltree_slices_insertionSortOrdered_uint64_4, bind_cond, bind_none', bind_some', bind_bind', bind_sum, Sum.elim_inl, Sum.elim_inr]
theorem Le_slices_insertionSortOrdered_uint64_4 (x1 : Int) (x2 : Int) (x3 : Int) (x4 : Int) (x5 : List Int) : L_slices_insertionSortOrdered_uint64_4 (x1, (x2, (x3, (x4, ())))) (x5, ()) = ltree_slices_insertionSortOrdered_uint64_4 F_cmp_Less_uint64 x1 x2 x3 x4 x5 L_slices_insertionSortOrdered_uint64_4 some := runL_tree (A := LT_slices_insertionSortOrdered_uint64_4) (B := LM_slices_insertionSortOrdered_uint64_4) (R := LO_slices_insertionSortOrdered_uint64_4) (fun a b kn kr => ltree_slices_insertionSortOrdered_uint64_4 F_cmp_Less_uint64 a.1 a.2.1 a.2.2.1 a.2.2.2.1 b.1 kn kr) (fun a b kn kr => nl_slices_insertionSortOrdered_uint64_4 F_cmp_Less_uint64 a.1 a.2.1 a.2.2.1 a.2.2.2.1 b.1 kn kr) (x1, (x2, (x3, (x4, ())))) (x5, ())
def ltmps_slices_insertionSortOrdered_uint64_1 : SkL := (.cons (.const (.slw 0)) (.cons (.leaf (.int .i64)) (.cons (.leaf (.int .i64)) (dz 3 (.cons (.leaf (.int .i64)) (dz 42 .nil))))))
def lmem_slices_insertionSortOrdered_uint64_1 : MSk := [(0, .row 22 (.cons (.int .u64) .nil))]
def louts_slices_insertionSortOrdered_uint64_1 : List OutL := [⟨(.exit 0), (dz 49 .nil), [(0, .row 22 (.cons (.int .u64) .nil))]⟩]
abbrev LT_slices_insertionSortOrdered_uint64_1 : Type := (Int × Int × Int × Unit)
abbrev LM_slices_insertionSortOrdered_uint64_1 : Type := (List Int × Unit)
abbrev LO_slices_insertionSortOrdered_uint64_1 : Type := Unit × (List Int × Unit)
def ltree_slices_insertionSortOrdered_uint64_1 (L_slices_insertionSortOrdered_uint64_4 : LT_slices_insertionSortOrdered_uint64_4 → LM_slices_insertionSortOrdered_uint64_4 → Option LO_slices_insertionSortOrdered_uint64_4) {α : Type} (x1 : Int) (x2 : Int) (x3 : Int) (x4 : List Int) (kn : LT_slices_insertionSortOrdered_uint64_1 → LM_slices_insertionSortOrdered_uint64_1 → Option α) (kr : LO_slices_insertionSortOrdered_uint64_1 → Option α) : Option α :=
  cond (decide (x3 < x2))
  ((L_slices_insertionSortOrdered_uint64_4 (x1, x2, x3, x3, ()) (x4, ())).bind fun r1 =>
   kn (r1.fst.fst, (r1.fst.snd.fst, (IntKind.i64.wrap (r1.fst.snd.snd.fst + 1), ()))) (r1.snd.fst, ()))
  (kr ((), (x4, ())))
noncomputable def L_slices_insertionSortOrdered_uint64_1 : LT_slices_insertionSortOrdered_uint64_1 → LM_slices_insertionSortOrdered_uint64_1 → Option LO_slices_insertionSortOrdered_uint64_1 := fun x y => runL (fun p => (fun (a : LT_slices_insertionSortOrdered_uint64_1) (b : LM_slices_insertionSortOrdered_uint64_1) => ltree_slices_insertionSortOrdered_uint64_1 L_slices_insertionSortOrdered_uint64_4 a.1 a.2.1 a.2.2.1 b.1 (fun a' b' => some (.inl (a', b'))) fun r => some (.inr r)) p.1 p.2) (x, y)
theorem nl_slices_insertionSortOrdered_uint64_1 (L_slices_insertionSortOrdered_uint64_4 : LT_slices_insertionSortOrdered_uint64_4 → LM_slices_insertionSortOrdered_uint64_4 → Option LO_slices_insertionSortOrdered_uint64_4) (x1 : Int) (x2 : Int) (x3 : Int) (x4 : List Int) {α : Type} (kn : LT_slices_insertionSortOrdered_uint64_1 → LM_slices_insertionSortOrdered_uint64_1 → Option α) (kr : LO_slices_insertionSortOrdered_uint64_1 → Option α) : ltree_slices_insertionSortOrdered_uint64_1 L_slices_insertionSortOrdered_uint64_4 x1 x2 x3 x4 kn kr = (ltree_slices_insertionSortOrdered_uint64_1 L_slices_insertionSortOrdered_uint64_4 x1 x2 x3 x4 (fun a b => some (.inl (a, b))) fun r => some (.inr r)).bind (Sum.elim (fun p : LT_slices_insertionSortOrdered_uint64_1 × LM_slices_insertionSortOrdered_uint64_1 => kn p.1 p.2) kr) := by simp only [ltree_slices_insertionSortOrdered_uint64_1, bind_cond, bind_none', bind_some', bind_bind', bind_sum, Sum.elim_inl, Sum.elim_inr]
theorem Le_slices_insertionSortOrdered_uint64_1 (x1 : Int) (x2 : Int) (x3 : Int) (x4 : List Int) : L_slices_insertionSortOrdered_uint64_1 (x1, (x2, (x3, ()))) (x4, ()) = ltree_slices_insertionSortOrdered_uint64_1 L_slices_insertionSortOrdered_uint64_4 x1 x2 x3 x4 L_slices_insertionSortOrdered_uint64_1 some := runL_tree (A := LT_slices_insertionSortOrdered_uint64_1) (B := LM_slices_insertionSortOrdered_uint64_1) (R := LO_slices_insertionSortOrdered_uint64_1) (fun a b kn kr => ltree_slices_insertionSortOrdered_uint64_1 L_slices_insertionSortOrdered_uint64_4 a.1 a.2.1 a.2.2.1 b.1 kn kr) (fun a b kn kr => nl_slices_insertionSortOrdered_uint64_1 L_slices_insertionSortOrdered_uint64_4 a.1 a.2.1 a.2.2.1 b.1 kn kr) (x1, (x2, (x3, ()))) (x4, ())
def tree_slices_insertionSortOrdered_uint64 (L_slices_insertionSortOrdered_uint64_1 : LT_slices_insertionSortOrdered_uint64_1 → LM_slices_insertionSortOrdered_uint64_1 → Option LO_slices_insertionSortOrdered_uint64_1) {α : Type} (x1 : Int) (x2 : Int) (x3 : List Int) (K : O_slices_insertionSortOrdered_uint64 → Option α) : Option α :=
  (L_slices_insertionSortOrdered_uint64_1 (x1, x2, IntKind.i64.wrap (x1 + 1), ()) (x3, ())).bind fun r1 =>
  K ((), (r1.snd.fst, ()))
noncomputable def F_slices_insertionSortOrdered_uint64 : A_slices_insertionSortOrdered_uint64 → M_slices_insertionSortOrdered_uint64 → Option O_slices_insertionSortOrdered_uint64 := fun a b => tree_slices_insertionSortOrdered_uint64 L_slices_insertionSortOrdered_uint64_1 a.1 a.2.1 b.1 some
theorem n_slices_insertionSortOrdered_uint64 (L_slices_insertionSortOrdered_uint64_1 : LT_slices_insertionSortOrdered_uint64_1 → LM_slices_insertionSortOrdered_uint64_1 → Option LO_slices_insertionSortOrdered_uint64_1) (x1 : Int) (x2 : Int) (x3 : List Int) {α : Type} (K : O_slices_insertionSortOrdered_uint64 → Option α) : tree_slices_insertionSortOrdered_uint64 L_slices_insertionSortOrdered_uint64_1 x1 x2 x3 K = (tree_slices_insertionSortOrdered_uint64 L_slices_insertionSortOrdered_uint64_1 x1 x2 x3 some).bind K := by simp only [tree_slices_insertionSortOrdered_uint64, bind_cond, bind_none', bind_some', bind_bind', bind_sum]
theorem Fe_slices_insertionSortOrdered_uint64 (x1 : Int) (x2 : Int) (x3 : List Int) : F_slices_insertionSortOrdered_uint64 (x1, (x2, ())) (x3, ()) = tree_slices_insertionSortOrdered_uint64 L_slices_insertionSortOrdered_uint64_1 x1 x2 x3 some := rfl
def args_slices_siftDownOrdered_uint64 : SkL := (.cons (.const (.slw 0)) (.cons (.leaf (.int .i64)) (.cons (.leaf (.int .i64)) (.cons (.leaf (.int .i64)) .nil))))
def mem_slices_siftDownOrdered_uint64 : MSk := [(0, .row 22 (.cons (.int .u64) .nil))]
def outs_slices_siftDownOrdered_uint64 : List OutC := [⟨(.tup .nil), [(0, .row 22 (.cons (.int .u64) .nil))]⟩]
abbrev A_slices_siftDownOrdered_uint64 : Type := (Int × Int × Int × Unit)
abbrev M_slices_siftDownOrdered_uint64 : Type := (List Int × Unit)
abbrev O_slices_siftDownOrdered_uint64 : Type := Unit × (List Int × Unit)
def ltmps_slices_siftDownOrdered_uint64_1 : SkL := (.cons (.const (.slw 0)) (.cons (.const .dead) (.cons (.leaf (.int .i64)) (.cons (.leaf (.int .i64)) (dz 4 (.cons (.leaf (.int .i64)) (dz 67 .nil)))))))
def lmem_slices_siftDownOrdered_uint64_1 : MSk := [(0, .row 22 (.cons (.int .u64) .nil))]
def louts_slices_siftDownOrdered_uint64_1 : List OutL := [⟨(.exit 0), (dz 76 .nil), [(0, .row 22 (.cons (.int .u64) .nil))]⟩, ⟨.ret, (dz 76 .nil), [(0, .row 22 (.cons (.int .u64) .nil))]⟩]
abbrev LT_slices_siftDownOrdered_uint64_1 : Type := (Int × Int × Int × Unit)
abbrev LM_slices_siftDownOrdered_uint64_1 : Type := (List Int × Unit)
abbrev LO_slices_siftDownOrdered_uint64_1 : Type := (Unit × (List Int × Unit)) ⊕ (Unit × (List Int × Unit))
def ltree_slices_siftDownOrdered_uint64_1 (F_cmp_Less_uint64 : A_cmp_Less_uint64 → M_cmp_Less_uint64 → Option O_cmp_Less_uint64) {α : Type} (x1 : Int) (x2 : Int) (x3 : Int) (x4 : List Int) (kn : LT_slices_siftDownOrdered_uint64_1 → LM_slices_siftDownOrdered_uint64_1 → Option α) (kr : LO_slices_siftDownOrdered_uint64_1 → Option α) : Option α :=
  cond (decide (IntKind.i64.wrap (IntKind.i64.wrap (2 * x3) + 1) ≥ x1))
  (kr (.inl ((), (x4, ()))))
  (cond (decide (IntKind.i64.wrap (IntKind.i64.wrap (IntKind.i64.wrap (2 * x3) + 1) + 1) < x1))
   (cond (decide (0 ≤ IntKind.i64.wrap (x2 + IntKind.i64.wrap (IntKind.i64.wrap (2 * x3) + 1))))
    (cond (decide   (IntKind.i64.wrap (x2 + IntKind.i64.wrap (IntKind.i64.wrap (2 * x3) + 1)) < (↑x4.length : Int)))
     (cond (decide   (0 ≤ IntKind.i64.wrap (IntKind.i64.wrap (x2 + IntKind.i64.wrap (IntKind.i64.wrap (2 * x3) + 1)) + 1)))
      (cond (decide   (IntKind.i64.wrap (IntKind.i64.wrap (x2 + IntKind.i64.wrap (IntKind.i64.wrap (2 * x3) + 1)) + 1) <     (↑x4.length : Int)))
       ((F_cmp_Less_uint64   (x4.getD (0 + (IntKind.i64.wrap (x2 + IntKind.i64.wrap (IntKind.i64.wrap (2 * x3) + 1))).toNat) 0,     x4.getD       (0 +         (IntKind.i64.wrap             (IntKind.i64.wrap (x2 + IntKind.i64.wrap (IntKind.i64.wrap (2 * x3) + 1)) + 1)).toNat)       0,     ())   ()).bind fun r1 =>
        cond (r1.fst)
        (cond (decide (0 ≤ IntKind.i64.wrap (x2 + x3)))
         (cond (decide (IntKind.i64.wrap (x2 + x3) < (↑x4.length : Int)))
          (cond (decide   (0 ≤ IntKind.i64.wrap (x2 + IntKind.i64.wrap (IntKind.i64.wrap (IntKind.i64.wrap (2 * x3) + 1) + 1))))
           (cond (decide   (IntKind.i64.wrap (x2 + IntKind.i64.wrap (IntKind.i64.wrap (IntKind.i64.wrap (2 * x3) + 1) + 1)) <     (↑x4.length : Int)))
            ((F_cmp_Less_uint64   (x4.getD (0 + (IntKind.i64.wrap (x2 + x3)).toNat) 0,     x4.getD       (0 +         (IntKind.i64.wrap             (x2 + IntKind.i64.wrap (IntKind.i64.wrap (IntKind.i64.wrap (2 * x3) + 1) + 1))).toNat)       0,     ())   ()).bind fun r2 =>
             cond (!r2.fst)
             (kr (.inr ((), (x4, ()))))
             (cond (decide   (0 ≤ IntKind.i64.wrap (x2 + IntKind.i64.wrap (IntKind.i64.wrap (IntKind.i64.wrap (2 * x3) + 1) + 1))))
              (cond (decide   (IntKind.i64.wrap (x2 + IntKind.i64.wrap (IntKind.i64.wrap (IntKind.i64.wrap (2 * x3) + 1) + 1)) <     (↑x4.length : Int)))
               (cond (decide (0 ≤ IntKind.i64.wrap (x2 + x3)))
                (cond (decide (IntKind.i64.wrap (x2 + x3) < (↑x4.length : Int)))
                 (cond (decide (0 ≤ IntKind.i64.wrap (x2 + x3)))
                  (cond (decide (IntKind.i64.wrap (x2 + x3) < (↑x4.length : Int)))
                   (cond (decide   (0 ≤ IntKind.i64.wrap (x2 + IntKind.i64.wrap (IntKind.i64.wrap (IntKind.i64.wrap (2 * x3) + 1) + 1))))
                    (cond (decide   (IntKind.i64.wrap (x2 + IntKind.i64.wrap (IntKind.i64.wrap (IntKind.i64.wrap (2 * x3) + 1) + 1)) <     (↑(x4.set (0 + (IntKind.i64.wrap (x2 + x3)).toNat)             (x4.getD               (0 +                 (IntKind.i64.wrap                     (x2 + IntKind.i64.wrap (IntKind.i64.wrap (IntKind.i64.wrap (2 * x3) + 1) + 1))).toNat)               0)).length :       Int)))
                     (kn (x1, (x2, (IntKind.i64.wrap (IntKind.i64.wrap (IntKind.i64.wrap (2 * x3) + 1) + 1), ()))) ((x4.set (0 + (IntKind.i64.wrap (x2 + x3)).toNat)       (x4.getD         (0 +           (IntKind.i64.wrap               (x2 + IntKind.i64.wrap (IntKind.i64.wrap (IntKind.i64.wrap (2 * x3) + 1) + 1))).toNat)         0)).set   (0 +     (IntKind.i64.wrap (x2 + IntKind.i64.wrap (IntKind.i64.wrap (IntKind.i64.wrap (2 * x3) + 1) + 1))).toNat)   (x4.getD (0 + (IntKind.i64.wrap (x2 + x3)).toNat) 0), ()))
                     (none))
                    (none))
                   (none))
                  (none))
                 (none))
                (none))
               (none))
              (none)))
            (none))
           (none))
          (none))
         (none))
        (cond (decide (0 ≤ IntKind.i64.wrap (x2 + x3)))
         (cond (decide (IntKind.i64.wrap (x2 + x3) < (↑x4.length : Int)))
          (cond (decide (0 ≤ IntKind.i64.wrap (x2 + IntKind.i64.wrap (IntKind.i64.wrap (2 * x3) + 1))))
           (cond (decide   (IntKind.i64.wrap (x2 + IntKind.i64.wrap (IntKind.i64.wrap (2 * x3) + 1)) < (↑x4.length : Int)))
            ((F_cmp_Less_uint64   (x4.getD (0 + (IntKind.i64.wrap (x2 + x3)).toNat) 0,     x4.getD (0 + (IntKind.i64.wrap (x2 + IntKind.i64.wrap (IntKind.i64.wrap (2 * x3) + 1))).toNat) 0, ())   ()).bind fun r3 =>
             cond (!r3.fst)
             (kr (.inr ((), (x4, ()))))
             (cond (decide (0 ≤ IntKind.i64.wrap (x2 + IntKind.i64.wrap (IntKind.i64.wrap (2 * x3) + 1))))
              (cond (decide   (IntKind.i64.wrap (x2 + IntKind.i64.wrap (IntKind.i64.wrap (2 * x3) + 1)) < (↑x4.length : Int)))
               (cond (decide (0 ≤ IntKind.i64.wrap (x2 + x3)))
                (cond (decide (IntKind.i64.wrap (x2 + x3) < (↑x4.length : Int)))
                 (cond (decide (0 ≤ IntKind.i64.wrap (x2 + x3)))
                  (cond (decide (IntKind.i64.wrap (x2 + x3) < (↑x4.length : Int)))
                   (cond (decide (0 ≤ IntKind.i64.wrap (x2 + IntKind.i64.wrap (IntKind.i64.wrap (2 * x3) + 1))))
                    (cond (decide   (IntKind.i64.wrap (x2 + IntKind.i64.wrap (IntKind.i64.wrap (2 * x3) + 1)) <     (↑(x4.set (0 + (IntKind.i64.wrap (x2 + x3)).toNat)             (x4.getD (0 + (IntKind.i64.wrap (x2 + IntKind.i64.wrap (IntKind.i64.wrap (2 * x3) + 1))).toNat)               0)).length :       Int)))
                     (kn (x1, (x2, (IntKind.i64.wrap (IntKind.i64.wrap (2 * x3) + 1), ()))) ((x4.set (0 + (IntKind.i64.wrap (x2 + x3)).toNat)       (x4.getD (0 + (IntKind.i64.wrap (x2 + IntKind.i64.wrap (IntKind.i64.wrap (2 * x3) + 1))).toNat) 0)).set   (0 + (IntKind.i64.wrap (x2 + IntKind.i64.wrap (IntKind.i64.wrap (2 * x3) + 1))).toNat)   (x4.getD (0 + (IntKind.i64.wrap (x2 + x3)).toNat) 0), ()))
                     (none))
                    (none))
                   (none))
                  (none))
                 (none))
                (none))
               (none))
              (none)))
            (none))
           (none))
          (none))
         (none)))
       (none))
      (none))
     (none))
    (none))
   (cond (decide (0 ≤ IntKind.i64.wrap (x2 + x3)))
    (cond (decide (IntKind.i64.wrap (x2 + x3) < (↑x4.length : Int)))
     (cond (decide (0 ≤ IntKind.i64.wrap (x2 + IntKind.i64.wrap (IntKind.i64.wrap (2 * x3) + 1))))
      (cond (decide   (IntKind.i64.wrap (x2 + IntKind.i64.wrap (IntKind.i64.wrap (2 * x3) + 1)) < (↑x4.length : Int)))
       ((F_cmp_Less_uint64   (x4.getD (0 + (IntKind.i64.wrap (x2 + x3)).toNat) 0,     x4.getD (0 + (IntKind.i64.wrap (x2 + IntKind.i64.wrap (IntKind.i64.wrap (2 * x3) + 1))).toNat) 0, ())   ()).bind fun r4 =>
        cond (!r4.fst)
        (kr (.inr ((), (x4, ()))))
        (cond (decide (0 ≤ IntKind.i64.wrap (x2 + IntKind.i64.wrap (IntKind.i64.wrap (2 * x3) + 1))))
         (cond (decide   (IntKind.i64.wrap (x2 + IntKind.i64.wrap (IntKind.i64.wrap (2 * x3) + 1)) < (↑x4.length : Int)))
          (cond (decide (0 ≤ IntKind.i64.wrap (x2 + x3)))
           (cond (decide (IntKind.i64.wrap (x2 + x3) < (↑x4.length : Int)))
            (cond (decide (0 ≤ IntKind.i64.wrap (x2 + x3)))
             (cond (decide (IntKind.i64.wrap (x2 + x3) < (↑x4.length : Int)))
              (cond (decide (0 ≤ IntKind.i64.wrap (x2 + IntKind.i64.wrap (IntKind.i64.wrap (2 * x3) + 1))))
               (cond (decide   (IntKind.i64.wrap (x2 + IntKind.i64.wrap (IntKind.i64.wrap (2 * x3) + 1)) <     (↑(x4.set (0 + (IntKind.i64.wrap (x2 + x3)).toNat)             (x4.getD (0 + (IntKind.i64.wrap (x2 + IntKind.i64.wrap (IntKind.i64.wrap (2 * x3) + 1))).toNat)               0)).length :       Int)))
                (kn (x1, (x2, (IntKind.i64.wrap (IntKind.i64.wrap (2 * x3) + 1), ()))) ((x4.set (0 + (IntKind.i64.wrap (x2 + x3)).toNat)       (x4.getD (0 + (IntKind.i64.wrap (x2 + IntKind.i64.wrap (IntKind.i64.wrap (2 * x3) + 1))).toNat) 0)).set   (0 + (IntKind.i64.wrap (x2 + IntKind.i64.wrap (IntKind.i64.wrap (2 * x3) + 1))).toNat)   (x4.getD (0 + (IntKind.i64.wrap (x2 + x3)).toNat) 0), ()))
                (none))
               (none))
              (none))
             (none))
            (none))
           (none))
          (none))
         (none)))
       (none))
      (none))
     (none))
    (none)))
noncomputable def L_slices_siftDownOrdered_uint64_1 : LT_slices_siftDownOrdered_uint64_1 → LM_slices_siftDownOrdered_uint64_1 → Option LO_slices_siftDownOrdered_uint64_1 := fun x y => runL (fun p => (fun (a : LT_slices_siftDownOrdered_uint64_1) (b : LM_slices_siftDownOrdered_uint64_1) => ltree_slices_siftDownOrdered_uint64_1 F_cmp_Less_uint64 a.1 a.2.1 a.2.2.1 b.1 (fun a' b' => some (.inl (a', b'))) fun r => some (.inr r)) p.1 p.2) (x, y)
theorem nl_slices_siftDownOrdered_uint64_1 (F_cmp_Less_uint64 : A_cmp_Less_uint64 → M_cmp_Less_uint64 → Option O_cmp_Less_uint64) (x1 : Int) (x2 : Int) (x3 : Int) (x4 : List Int) {α : Type} (kn : LT_slices_siftDownOrdered_uint64_1 → LM_slices_siftDownOrdered_uint64_1 → Option α) (kr : LO_slices_siftDownOrdered_uint64_1 → Option α) : ltree_slices_siftDownOrdered_uint64_1 F_cmp_Less_uint64 x1 x2 x3 x4 kn kr = (ltree_slices_siftDownOrdered_uint64_1 F_cmp_Less_uint64 x1 x2 x3 x4 (fun a b => some (.inl (a, b))) fun r => some (.inr r)).bind (Sum.elim (fun p : LT_slices_siftDownOrdered_uint64_1 × LM_slices_siftDownOrdered_uint64_1 => kn p.1 p.2) kr) := by simp only [ltree_slices_siftDownOrdered_uint64_1, bind_cond, bind_none', bind_some', bind_bind', bind_sum, Sum.elim_inl, Sum.elim_inr]
theorem Le_slices_siftDownOrdered_uint64_1 (x1 : Int) (x2 : Int) (x3 : Int) (x4 : List Int) : L_slices_siftDownOrdered_uint64_1 (x1, (x2, (x3, ()))) (x4, ()) = ltree_slices_siftDownOrdered_uint64_1 F_cmp_Less_uint64 x1 x2 x3 x4 L_slices_siftDownOrdered_uint64_1 some := runL_tree (A := LT_slices_siftDownOrdered_uint64_1) (B := LM_slices_siftDownOrdered_uint64_1) (R := LO_slices_siftDownOrdered_uint64_1) (fun a b kn kr => ltree_slices_siftDownOrdered_uint64_1 F_cmp_Less_uint64 a.1 a.2.1 a.2.2.1 b.1 kn kr) (fun a b kn kr => nl_slices_siftDownOrdered_uint64_1 F_cmp_Less_uint64 a.1 a.2.1 a.2.2.1 b.1 kn kr) (x1, (x2, (x3, ()))) (x4, ())
def tree_slices_siftDownOrdered_uint64 (L_slices_siftDownOrdered_uint64_1 : LT_slices_siftDownOrdered_uint64_1 → LM_slices_siftDownOrdered_uint64_1 → Option LO_slices_siftDownOrdered_uint64_1) {α : Type} (x1 : Int) (x2 : Int) (x3 : Int) (x4 : List Int) (K : O_slices_siftDownOrdered_uint64 → Option α) : Option α :=
  (L_slices_siftDownOrdered_uint64_1 (x2, x3, x1, ()) (x4, ())).bind fun r1 =>
  Sum.elim (fun u2 =>
   K ((), (u2.snd.fst, ())))
  (fun u2 =>
   K ((), (u2.snd.fst, ()))) (r1)
noncomputable def F_slices_siftDownOrdered_uint64 : A_slices_siftDownOrdered_uint64 → M_slices_siftDownOrdered_uint64 → Option O_slices_siftDownOrdered_uint64 := fun a b => tree_slices_siftDownOrdered_uint64 L_slices_siftDownOrdered_uint64_1 a.1 a.2.1 a.2.2.1 b.1 some
theorem n_slices_siftDownOrdered_uint64 (L_slices_siftDownOrdered_uint64_1 : LT_slices_siftDownOrdered_uint64_1 → LM_slices_siftDownOrdered_uint64_1 → Option LO_slices_siftDownOrdered_uint64_1) (x1 : Int) (x2 : Int) (x3 : Int) (x4 : List Int) {α : Type} (K : O_slices_siftDownOrdered_uint64 → Option α) : tree_slices_siftDownOrdered_uint64 L_slices_siftDownOrdered_uint64_1 x1 x2 x3 x4 K = (tree_slices_siftDownOrdered_uint64 L_slices_siftDownOrdered_uint64_1 x1 x2 x3 x4 some).bind K := by simp only [tree_slices_siftDownOrdered_uint64, bind_cond, bind_none', bind_some', bind_bind', bind_sum]
theorem Fe_slices_siftDownOrdered_uint64 (x1 : Int) (x2 : Int) (x3 : Int) (x4 : List Int) : F_slices_siftDownOrdered_uint64 (x1, (x2, (x3, ()))) (x4, ()) = tree_slices_siftDownOrdered_uint64 L_slices_siftDownOrdered_uint64_1 x1 x2 x3 x4 some := rfl
def args_bits_Len32 : SkL := (.cons (.leaf (.int .u32)) .nil)
def mem_bits_Len32 : MSk := []
def outs_bits_Len32 : List OutC := [⟨(.leaf (.int .i64)), []⟩]
abbrev A_bits_Len32 : Type := (Int × Unit)
abbrev M_bits_Len32 : Type := Unit
abbrev O_bits_Len32 : Type := Int × Unit
def tree_bits_Len32 {α : Type} (x1 : Int) (K : O_bits_Len32 → Option α) : Option α :=
  cond (decide (x1 ≥ 65536))
  (cond (decide (x1.fdiv 65536 ≥ 256))
   (cond (decide (0 ≤ IntKind.u8.wrap ((x1.fdiv 65536).fdiv 256)))
    (cond (decide (IntKind.u8.wrap ((x1.fdiv 65536).fdiv 256) < 256))
     (K (IntKind.i64.wrap   (24 +     IntKind.i64.wrap       (Go.Proofs.Ytgakbdikappdbaa.S2.strAt         {           data :=             (([0, 1, 2, 2, 3, 3, 3, 3, 4, 4, 4, 4, 4, 4, 4, 4, 5, 5, 5, 5, 5, 5, 5, 5, 5, 5, 5, 5, 5, 5, 5, 5, 6, 6, 6,                         6, 6, 6, 6, 6, 6, 6, 6, 6, 6, 6, 6, 6, 6, 6, 6, 6, 6, 6, 6, 6, 6, 6, 6, 6, 6, 6, 6, 6].append                     [7, 7, 7, 7, 7, 7, 7, 7, 7, 7, 7, 7, 7, 7, 7, 7, 7, 7, 7, 7, 7, 7, 7, 7, 7, 7, 7, 7, 7, 7, 7, 7, 7,                       7, 7, 7, 7, 7, 7, 7, 7, 7, 7, 7, 7, 7, 7, 7, 7, 7, 7, 7, 7, 7, 7, 7, 7, 7, 7, 7, 7, 7, 7,                       7]).append                 ([8, 8, 8, 8, 8, 8, 8, 8, 8, 8, 8, 8, 8, 8, 8, 8, 8, 8, 8, 8, 8, 8, 8, 8, 8, 8, 8, 8, 8, 8, 8, 8, 8, 8,                       8, 8, 8, 8, 8, 8, 8, 8, 8, 8, 8, 8, 8, 8, 8, 8, 8, 8, 8, 8, 8, 8, 8, 8, 8, 8, 8, 8, 8, 8].append                   [8, 8, 8, 8, 8, 8, 8, 8, 8, 8, 8, 8, 8, 8, 8, 8, 8, 8, 8, 8, 8, 8, 8, 8, 8, 8, 8, 8, 8, 8, 8, 8, 8, 8,                     8, 8, 8, 8, 8, 8, 8, 8, 8, 8, 8, 8, 8, 8, 8, 8, 8, 8, 8, 8, 8, 8, 8, 8, 8, 8, 8, 8, 8,                     8])).toArray }         (IntKind.u8.wrap ((x1.fdiv 65536).fdiv 256)))), ()))
     (none))
    (none))
   (cond (decide (0 ≤ IntKind.u8.wrap (x1.fdiv 65536)))
    (cond (decide (IntKind.u8.wrap (x1.fdiv 65536) < 256))
     (K (IntKind.i64.wrap   (16 +     IntKind.i64.wrap       (Go.Proofs.Ytgakbdikappdbaa.S2.strAt         {           data :=             (([0, 1, 2, 2, 3, 3, 3, 3, 4, 4, 4, 4, 4, 4, 4, 4, 5, 5, 5, 5, 5, 5, 5, 5, 5, 5, 5, 5, 5, 5, 5, 5, 6, 6, 6,                         6, 6, 6, 6, 6, 6, 6, 6, 6, 6, 6, 6, 6, 6, 6, 6, 6, 6, 6, 6, 6, 6, 6, 6, 6, 6, 6, 6, 6].append                     [7, 7, 7, 7, 7, 7, 7, 7, 7, 7, 7, 7, 7, 7, 7, 7, 7, 7, 7, 7, 7, 7, 7, 7, 7, 7, 7, 7, 7, 7, 7, 7, 7,                       7, 7, 7, 7, 7, 7, 7, 7, 7, 7, 7, 7, 7, 7, 7, 7, 7, 7, 7, 7, 7, 7, 7, 7, 7, 7, 7, 7, 7, 7,                       7]).append                 ([8, 8, 8, 8, 8, 8, 8, 8, 8, 8, 8, 8, 8, 8, 8, 8, 8, 8, 8, 8, 8, 8, 8, 8, 8, 8, 8, 8, 8, 8, 8, 8, 8, 8,                       8, 8, 8, 8, 8, 8, 8, 8, 8, 8, 8, 8, 8, 8, 8, 8, 8, 8, 8, 8, 8, 8, 8, 8, 8, 8, 8, 8, 8, 8].append                   [8, 8, 8, 8, 8, 8, 8, 8, 8, 8, 8, 8, 8, 8, 8, 8, 8, 8, 8, 8, 8, 8, 8, 8, 8, 8, 8, 8, 8, 8, 8, 8, 8, 8,                     8, 8, 8, 8, 8, 8, 8, 8, 8, 8, 8, 8, 8, 8, 8, 8, 8, 8, 8, 8, 8, 8, 8, 8, 8, 8, 8, 8, 8,                     8])).toArray }         (IntKind.u8.wrap (x1.fdiv 65536)))), ()))
     (none))
    (none)))
  (cond (decide (x1 ≥ 256))
   (cond (decide (0 ≤ IntKind.u8.wrap (x1.fdiv 256)))
    (cond (decide (IntKind.u8.wrap (x1.fdiv 256) < 256))
     (K (IntKind.i64.wrap   (8 +     IntKind.i64.wrap       (Go.Proofs.Ytgakbdikappdbaa.S2.strAt         {           data :=             (([0, 1, 2, 2, 3, 3, 3, 3, 4, 4, 4, 4, 4, 4, 4, 4, 5, 5, 5, 5, 5, 5, 5, 5, 5, 5, 5, 5, 5, 5, 5, 5, 6, 6, 6,                         6, 6, 6, 6, 6, 6, 6, 6, 6, 6, 6, 6, 6, 6, 6, 6, 6, 6, 6, 6, 6, 6, 6, 6, 6, 6, 6, 6, 6].append                     [7, 7, 7, 7, 7, 7, 7, 7, 7, 7, 7, 7, 7, 7, 7, 7, 7, 7, 7, 7, 7, 7, 7, 7, 7, 7, 7, 7, 7, 7, 7, 7, 7,                       7, 7, 7, 7, 7, 7, 7, 7, 7, 7, 7, 7, 7, 7, 7, 7, 7, 7, 7, 7, 7, 7, 7, 7, 7, 7, 7, 7, 7, 7,                       7]).append                 ([8, 8, 8, 8, 8, 8, 8, 8, 8, 8, 8, 8, 8, 8, 8, 8, 8, 8, 8, 8, 8, 8, 8, 8, 8, 8, 8, 8, 8, 8, 8, 8, 8, 8,                       8, 8, 8, 8, 8, 8, 8, 8, 8, 8, 8, 8, 8, 8, 8, 8, 8, 8, 8, 8, 8, 8, 8, 8, 8, 8, 8, 8, 8, 8].append                   [8, 8, 8, 8, 8, 8, 8, 8, 8, 8, 8, 8, 8, 8, 8, 8, 8, 8, 8, 8, 8, 8, 8, 8, 8, 8, 8, 8, 8, 8, 8, 8, 8, 8,                     8, 8, 8, 8, 8, 8, 8, 8, 8, 8, 8, 8, 8, 8, 8, 8, 8, 8, 8, 8, 8, 8, 8, 8, 8, 8, 8, 8, 8,                     8])).toArray }         (IntKind.u8.wrap (x1.fdiv 256)))), ()))
     (none))
    (none))
   (cond (decide (0 ≤ IntKind.u8.wrap x1))
    (cond (decide (IntKind.u8.wrap x1 < 256))
     (K (IntKind.i64.wrap   (0 +     IntKind.i64.wrap       (Go.Proofs.Ytgakbdikappdbaa.S2.strAt         {           data :=             (([0, 1, 2, 2, 3, 3, 3, 3, 4, 4, 4, 4, 4, 4, 4, 4, 5, 5, 5, 5, 5, 5, 5, 5, 5, 5, 5, 5, 5, 5, 5, 5, 6, 6, 6,                         6, 6, 6, 6, 6, 6, 6, 6, 6, 6, 6, 6, 6, 6, 6, 6, 6, 6, 6, 6, 6, 6, 6, 6, 6, 6, 6, 6, 6].append                     [7, 7, 7, 7, 7, 7, 7, 7, 7, 7, 7, 7, 7, 7, 7, 7, 7, 7, 7, 7, 7, 7, 7, 7, 7, 7, 7, 7, 7, 7, 7, 7, 7,                       7, 7, 7, 7, 7, 7, 7, 7, 7, 7, 7, 7, 7, 7, 7, 7, 7, 7, 7, 7, 7, 7, 7, 7, 7, 7, 7, 7, 7, 7,                       7]).append                 ([8, 8, 8, 8, 8, 8, 8, 8, 8, 8, 8, 8, 8, 8, 8, 8, 8, 8, 8, 8, 8, 8, 8, 8, 8, 8, 8, 8, 8, 8, 8, 8, 8, 8,                       8, 8, 8, 8, 8, 8, 8, 8, 8, 8, 8, 8, 8, 8, 8, 8, 8, 8, 8, 8, 8, 8, 8, 8, 8, 8, 8, 8, 8, 8].append                   [8, 8, 8, 8, 8, 8, 8, 8, 8, 8, 8, 8, 8, 8, 8, 8, 8, 8, 8, 8, 8, 8, 8, 8, 8, 8, 8, 8, 8, 8, 8, 8, 8, 8,                     8, 8, 8, 8, 8, 8, 8, 8, 8, 8, 8, 8, 8, 8, 8, 8, 8, 8, 8, 8, 8, 8, 8, 8, 8, 8, 8, 8, 8,                     8])).toArray }         (IntKind.u8.wrap x1))), ()))
     (none))
    (none)))
noncomputable def F_bits_Len32 : A_bits_Len32 → M_bits_Len32 → Option O_bits_Len32 := fun a b => tree_bits_Len32 a.1 some
theorem n_bits_Len32 (x1 : Int) {α : Type} (K : O_bits_Len32 → Option α) : tree_bits_Len32 x1 K = (tree_bits_Len32 x1 some).bind K := by simp only [tree_bits_Len32, bind_cond, bind_none', bind_some', bind_bind', bind_sum]
def args_bits_Len64 : SkL := (.cons (.leaf (.int .u64)) .nil)
def mem_bits_Len64 : MSk := []
def outs_bits_Len64 : List OutC := [⟨(.leaf (.int .i64)), []⟩]
abbrev A_bits_Len64 : Type := (Int × Unit)
abbrev M_bits_Len64 : Type := Unit
abbrev O_bits_Len64 : Type := Int × Unit
def tree_bits_Len64 {α : Type} (x1 : Int) (K : O_bits_Len64 → Option α) : Option α :=
  cond (decide (x1 ≥ 4294967296))
  (cond (decide (x1.fdiv 4294967296 ≥ 65536))
   (cond (decide ((x1.fdiv 4294967296).fdiv 65536 ≥ 256))
    (cond (decide (0 ≤ IntKind.u8.wrap (((x1.fdiv 4294967296).fdiv 65536).fdiv 256)))
     (cond (decide (IntKind.u8.wrap (((x1.fdiv 4294967296).fdiv 65536).fdiv 256) < 256))
      (K (IntKind.i64.wrap   (56 +     IntKind.i64.wrap       (Go.Proofs.Ytgakbdikappdbaa.S2.strAt         {           data :=             (([0, 1, 2, 2, 3, 3, 3, 3, 4, 4, 4, 4, 4, 4, 4, 4, 5, 5, 5, 5, 5, 5, 5, 5, 5, 5, 5, 5, 5, 5, 5, 5, 6, 6, 6,                         6, 6, 6, 6, 6, 6, 6, 6, 6, 6, 6, 6, 6, 6, 6, 6, 6, 6, 6, 6, 6, 6, 6, 6, 6, 6, 6, 6, 6].append                     [7, 7, 7, 7, 7, 7, 7, 7, 7, 7, 7, 7, 7, 7, 7, 7, 7, 7, 7, 7, 7, 7, 7, 7, 7, 7, 7, 7, 7, 7, 7, 7, 7,                       7, 7, 7, 7, 7, 7, 7, 7, 7, 7, 7, 7, 7, 7, 7, 7, 7, 7, 7, 7, 7, 7, 7, 7, 7, 7, 7, 7, 7, 7,                       7]).append                 ([8, 8, 8, 8, 8, 8, 8, 8, 8, 8, 8, 8, 8, 8, 8, 8, 8, 8, 8, 8, 8, 8, 8, 8, 8, 8, 8, 8, 8, 8, 8, 8, 8, 8,                       8, 8, 8, 8, 8, 8, 8, 8, 8, 8, 8, 8, 8, 8, 8, 8, 8, 8, 8, 8, 8, 8, 8, 8, 8, 8, 8, 8, 8, 8].append                   [8, 8, 8, 8, 8, 8, 8, 8, 8, 8, 8, 8, 8, 8, 8, 8, 8, 8, 8, 8, 8, 8, 8, 8, 8, 8, 8, 8, 8, 8, 8, 8, 8, 8,                     8, 8, 8, 8, 8, 8, 8, 8, 8, 8, 8, 8, 8, 8, 8, 8, 8, 8, 8, 8, 8, 8, 8, 8, 8, 8, 8, 8, 8,                     8])).toArray }         (IntKind.u8.wrap (((x1.fdiv 4294967296).fdiv 65536).fdiv 256)))), ()))
      (none))
     (none))
    (cond (decide (0 ≤ IntKind.u8.wrap ((x1.fdiv 4294967296).fdiv 65536)))
     (cond (decide (IntKind.u8.wrap ((x1.fdiv 4294967296).fdiv 65536) < 256))
      (K (IntKind.i64.wrap   (48 +     IntKind.i64.wrap       (Go.Proofs.Ytgakbdikappdbaa.S2.strAt         {           data :=             (([0, 1, 2, 2, 3, 3, 3, 3, 4, 4, 4, 4, 4, 4, 4, 4, 5, 5, 5, 5, 5, 5, 5, 5, 5, 5, 5, 5, 5, 5, 5, 5, 6, 6, 6,                         6, 6, 6, 6, 6, 6, 6, 6, 6, 6, 6, 6, 6, 6, 6, 6, 6, 6, 6, 6, 6, 6, 6, 6, 6, 6, 6, 6, 6].append                     [7, 7, 7, 7, 7, 7, 7, 7, 7, 7, 7, 7, 7, 7, 7, 7, 7, 7, 7, 7, 7, 7, 7, 7, 7, 7, 7, 7, 7, 7, 7, 7, 7,                       7, 7, 7, 7, 7, 7, 7, 7, 7, 7, 7, 7, 7, 7, 7, 7, 7, 7, 7, 7, 7, 7, 7, 7, 7, 7, 7, 7, 7, 7,                       7]).append                 ([8, 8, 8, 8, 8, 8, 8, 8, 8, 8, 8, 8, 8, 8, 8, 8, 8, 8, 8, 8, 8, 8, 8, 8, 8, 8, 8, 8, 8, 8, 8, 8, 8, 8,                       8, 8, 8, 8, 8, 8, 8, 8, 8, 8, 8, 8, 8, 8, 8, 8, 8, 8, 8, 8, 8, 8, 8, 8, 8, 8, 8, 8, 8, 8].append                   [8, 8, 8, 8, 8, 8, 8, 8, 8, 8, 8, 8, 8, 8, 8, 8, 8, 8, 8, 8, 8, 8, 8, 8, 8, 8, 8, 8, 8, 8, 8, 8, 8, 8,                     8, 8, 8, 8, 8, 8, 8, 8, 8, 8, 8, 8, 8, 8, 8, 8, 8, 8, 8, 8, 8, 8, 8, 8, 8, 8, 8, 8, 8,                     8])).toArray }         (IntKind.u8.wrap ((x1.fdiv 4294967296).fdiv 65536)))), ()))
      (none))
     (none)))
   (cond (decide (x1.fdiv 4294967296 ≥ 256))
    (cond (decide (0 ≤ IntKind.u8.wrap ((x1.fdiv 4294967296).fdiv 256)))
     (cond (decide (IntKind.u8.wrap ((x1.fdiv 4294967296).fdiv 256) < 256))
      (K (IntKind.i64.wrap   (40 +     IntKind.i64.wrap       (Go.Proofs.Ytgakbdikappdbaa.S2.strAt         {           data :=             (([0, 1, 2, 2, 3, 3, 3, 3, 4, 4, 4, 4, 4, 4, 4, 4, 5, 5, 5, 5, 5, 5, 5, 5, 5, 5, 5, 5, 5, 5, 5, 5, 6, 6, 6,                         6, 6, 6, 6, 6, 6, 6, 6, 6, 6, 6, 6, 6, 6, 6, 6, 6, 6, 6, 6, 6, 6, 6, 6, 6, 6, 6, 6, 6].append                     [7, 7, 7, 7, 7, 7, 7, 7, 7, 7, 7, 7, 7, 7, 7, 7, 7, 7, 7, 7, 7, 7, 7, 7, 7, 7, 7, 7, 7, 7, 7, 7, 7,                       7, 7, 7, 7, 7, 7, 7, 7, 7, 7, 7, 7, 7, 7, 7, 7, 7, 7, 7, 7, 7, 7, 7, 7, 7, 7, 7, 7, 7, 7,                       7]).append                 ([8, 8, 8, 8, 8, 8, 8, 8, 8, 8, 8, 8, 8, 8, 8, 8, 8, 8, 8, 8, 8, 8, 8, 8, 8, 8, 8, 8, 8, 8, 8, 8, 8, 8,                       8, 8, 8, 8, 8, 8, 8, 8, 8, 8, 8, 8, 8, 8, 8, 8, 8, 8, 8, 8, 8, 8, 8, 8, 8, 8, 8, 8, 8, 8].append                   [8, 8, 8, 8, 8, 8, 8, 8, 8, 8, 8, 8, 8, 8, 8, 8, 8, 8, 8, 8, 8, 8, 8, 8, 8, 8, 8, 8, 8, 8, 8, 8, 8, 8,                     8, 8, 8, 8, 8, 8, 8, 8, 8, 8, 8, 8, 8, 8, 8, 8, 8, 8, 8, 8, 8, 8, 8, 8, 8, 8, 8, 8, 8,                     8])).toArray }         (IntKind.u8.wrap ((x1.fdiv 4294967296).fdiv 256)))), ()))
      (none))
     (none))
    (cond (decide (0 ≤ IntKind.u8.wrap (x1.fdiv 4294967296)))
     (cond (decide (IntKind.u8.wrap (x1.fdiv 4294967296) < 256))
      (K (IntKind.i64.wrap   (32 +     IntKind.i64.wrap       (Go.Proofs.Ytgakbdikappdbaa.S2.strAt         {           data :=             (([0, 1, 2, 2, 3, 3, 3, 3, 4, 4, 4, 4, 4, 4, 4, 4, 5, 5, 5, 5, 5, 5, 5, 5, 5, 5, 5, 5, 5, 5, 5, 5, 6, 6, 6,                         6, 6, 6, 6, 6, 6, 6, 6, 6, 6, 6, 6, 6, 6, 6, 6, 6, 6, 6, 6, 6, 6, 6, 6, 6, 6, 6, 6, 6].append                     [7, 7, 7, 7, 7, 7, 7, 7, 7, 7, 7, 7, 7, 7, 7, 7, 7, 7, 7, 7, 7, 7, 7, 7, 7, 7, 7, 7, 7, 7, 7, 7, 7,                       7, 7, 7, 7, 7, 7, 7, 7, 7, 7, 7, 7, 7, 7, 7, 7, 7, 7, 7, 7, 7, 7, 7, 7, 7, 7, 7, 7, 7, 7,                       7]).append                 ([8, 8, 8, 8, 8, 8, 8, 8, 8, 8, 8, 8, 8, 8, 8, 8, 8, 8, 8, 8, 8, 8, 8, 8, 8, 8, 8, 8, 8, 8, 8, 8, 8, 8,                       8, 8, 8, 8, 8, 8, 8, 8, 8, 8, 8, 8, 8, 8, 8, 8, 8, 8, 8, 8, 8, 8, 8, 8, 8, 8, 8, 8, 8, 8].append                   [8, 8, 8, 8, 8, 8, 8, 8, 8, 8, 8, 8, 8, 8, 8, 8, 8, 8, 8, 8, 8, 8, 8, 8, 8, 8, 8, 8, 8, 8, 8, 8, 8, 8,                     8, 8, 8, 8, 8, 8, 8, 8, 8, 8, 8, 8, 8, 8, 8, 8, 8, 8, 8, 8, 8, 8, 8, 8, 8, 8, 8, 8, 8,                     8])).toArray }         (IntKind.u8.wrap (x1.fdiv 4294967296)))), ()))
      (none))
     (none))))
  (cond (decide (x1 ≥ 65536))
   (cond (decide (x1.fdiv 65536 ≥ 256))
    (cond (decide (0 ≤ IntKind.u8.wrap ((x1.fdiv 65536).fdiv 256)))
     (cond (decide (IntKind.u8.wrap ((x1.fdiv 65536).fdiv 256) < 256))
      (K (IntKind.i64.wrap   (24 +     IntKind.i64.wrap       (Go.Proofs.Ytgakbdikappdbaa.S2.strAt         {           data :=             (([0, 1, 2, 2, 3, 3, 3, 3, 4, 4, 4, 4, 4, 4, 4, 4, 5, 5, 5, 5, 5, 5, 5, 5, 5, 5, 5, 5, 5, 5, 5, 5, 6, 6, 6,                         6, 6, 6, 6, 6, 6, 6, 6, 6, 6, 6, 6, 6, 6, 6, 6, 6, 6, 6, 6, 6, 6, 6, 6, 6, 6, 6, 6, 6].append                     [7, 7, 7, 7, 7, 7, 7, 7, 7, 7, 7, 7, 7, 7, 7, 7, 7, 7, 7, 7, 7, 7, 7, 7, 7, 7, 7, 7, 7, 7, 7, 7, 7,                       7, 7, 7, 7, 7, 7, 7, 7, 7, 7, 7, 7, 7, 7, 7, 7, 7, 7, 7, 7, 7, 7, 7, 7, 7, 7, 7, 7, 7, 7,                       7]).append                 ([8, 8, 8, 8, 8, 8, 8, 8, 8, 8, 8, 8, 8, 8, 8, 8, 8, 8, 8, 8, 8, 8, 8, 8, 8, 8, 8, 8, 8, 8, 8, 8, 8, 8,                       8, 8, 8, 8, 8, 8, 8, 8, 8, 8, 8, 8, 8, 8, 8, 8, 8, 8, 8, 8, 8, 8, 8, 8, 8, 8, 8, 8, 8, 8].append                   [8, 8, 8, 8, 8, 8, 8, 8, 8, 8, 8, 8, 8, 8, 8, 8, 8, 8, 8, 8, 8, 8, 8, 8, 8, 8, 8, 8, 8, 8, 8, 8, 8, 8,                     8, 8, 8, 8, 8, 8, 8, 8, 8, 8, 8, 8, 8, 8, 8, 8, 8, 8, 8, 8, 8, 8, 8, 8, 8, 8, 8, 8, 8,                     8])).toArray }         (IntKind.u8.wrap ((x1.fdiv 65536).fdiv 256)))), ()))
      (none))
     (none))
    (cond (decide (0 ≤ IntKind.u8.wrap (x1.fdiv 65536)))
     (cond (decide (IntKind.u8.wrap (x1.fdiv 65536) < 256))
      (K (IntKind.i64.wrap   (16 +     IntKind.i64.wrap       (Go.Proofs.Ytgakbdikappdbaa.S2.strAt         {           data :=             (([0, 1, 2, 2, 3, 3, 3, 3, 4, 4, 4, 4, 4, 4, 4, 4, 5, 5, 5, 5, 5, 5, 5, 5, 5, 5, 5, 5, 5, 5, 5, 5, 6, 6, 6,                         6, 6, 6, 6, 6, 6, 6, 6, 6, 6, 6, 6, 6, 6, 6, 6, 6, 6, 6, 6, 6, 6, 6, 6, 6, 6, 6, 6, 6].append                     [7, 7, 7, 7, 7, 7, 7, 7, 7, 7, 7, 7, 7, 7, 7, 7, 7, 7, 7, 7, 7, 7, 7, 7, 7, 7, 7, 7, 7, 7, 7, 7, 7,                       7, 7, 7, 7, 7, 7, 7, 7, 7, 7, 7, 7, 7, 7, 7, 7, 7, 7, 7, 7, 7, 7, 7, 7, 7, 7, 7, 7, 7, 7,                       7]).append                 ([8, 8, 8, 8, 8, 8, 8, 8, 8, 8, 8, 8, 8, 8, 8, 8, 8, 8, 8, 8, 8, 8, 8, 8, 8, 8, 8, 8, 8, 8, 8, 8, 8, 8,                       8, 8, 8, 8, 8, 8, 8, 8, 8, 8, 8, 8, 8, 8, 8, 8, 8, 8, 8, 8, 8, 8, 8, 8, 8, 8, 8, 8, 8, 8].append                   [8, 8, 8, 8, 8, 8, 8, 8, 8, 8, 8, 8, 8, 8, 8, 8, 8, 8, 8, 8, 8, 8, 8, 8, 8, 8, 8, 8, 8, 8, 8, 8, 8, 8,                     8, 8, 8, 8, 8, 8, 8, 8, 8, 8, 8, 8, 8, 8, 8, 8, 8, 8, 8, 8, 8, 8, 8, 8, 8, 8, 8, 8, 8,                     8])).toArray }         (IntKind.u8.wrap (x1.fdiv 65536)))), ()))
      (none))
     (none)))
   (cond (decide (x1 ≥ 256))
    (cond (decide (0 ≤ IntKind.u8.wrap (x1.fdiv 256)))
     (cond (decide (IntKind.u8.wrap (x1.fdiv 256) < 256))
      (K (IntKind.i64.wrap   (8 +     IntKind.i64.wrap       (Go.Proofs.Ytgakbdikappdbaa.S2.strAt         {           data :=             (([0, 1, 2, 2, 3, 3, 3, 3, 4, 4, 4, 4, 4, 4, 4, 4, 5, 5, 5, 5, 5, 5, 5, 5, 5, 5, 5, 5, 5, 5, 5, 5, 6, 6, 6,                         6, 6, 6, 6, 6, 6, 6, 6, 6, 6, 6, 6, 6, 6, 6, 6, 6, 6, 6, 6, 6, 6, 6, 6, 6, 6, 6, 6, 6].append                     [7, 7, 7, 7, 7, 7, 7, 7, 7, 7, 7, 7, 7, 7, 7, 7, 7, 7, 7, 7, 7, 7, 7, 7, 7, 7, 7, 7, 7, 7, 7, 7, 7,                       7, 7, 7, 7, 7, 7, 7, 7, 7, 7, 7, 7, 7, 7, 7, 7, 7, 7, 7, 7, 7, 7, 7, 7, 7, 7, 7, 7, 7, 7,                       7]).append                 ([8, 8, 8, 8, 8, 8, 8, 8, 8, 8, 8, 8, 8, 8, 8, 8, 8, 8, 8, 8, 8, 8, 8, 8, 8, 8, 8, 8, 8, 8, 8, 8, 8, 8,                       8, 8, 8, 8, 8, 8, 8, 8, 8, 8, 8, 8, 8, 8, 8, 8, 8, 8, 8, 8, 8, 8, 8, 8, 8, 8, 8, 8, 8, 8].append                   [8, 8, 8, 8, 8, 8, 8, 8, 8, 8, 8, 8, 8, 8, 8, 8, 8, 8, 8, 8, 8, 8, 8, 8, 8, 8, 8, 8, 8, 8, 8, 8, 8, 8,                     8, 8, 8, 8, 8, 8, 8, 8, 8, 8, 8, 8, 8, 8, 8, 8, 8, 8, 8, 8, 8, 8, 8, 8, 8, 8, 8, 8, 8,                     8])).toArray }         (IntKind.u8.wrap (x1.fdiv 256)))), ()))
      (none))
     (none))
    (cond (decide (0 ≤ IntKind.u8.wrap x1))
     (cond (decide (IntKind.u8.wrap x1 < 256))
      (K (IntKind.i64.wrap   (0 +     IntKind.i64.wrap       (Go.Proofs.Ytgakbdikappdbaa.S2.strAt         {           data :=             (([0, 1, 2, 2, 3, 3, 3, 3, 4, 4, 4, 4, 4, 4, 4, 4, 5, 5, 5, 5, 5, 5, 5, 5, 5, 5, 5, 5, 5, 5, 5, 5, 6, 6, 6,                         6, 6, 6, 6, 6, 6, 6, 6, 6, 6, 6, 6, 6, 6, 6, 6, 6, 6, 6, 6, 6, 6, 6, 6, 6, 6, 6, 6, 6].append                     [7, 7, 7, 7, 7, 7, 7, 7, 7, 7, 7, 7, 7, 7, 7, 7, 7, 7, 7, 7, 7, 7, 7, 7, 7, 7, 7, 7, 7, 7, 7, 7, 7,                       7, 7, 7, 7, 7, 7, 7, 7, 7, 7, 7, 7, 7, 7, 7, 7, 7, 7, 7, 7, 7, 7, 7, 7, 7, 7, 7, 7, 7, 7,                       7]).append                 ([8, 8, 8, 8, 8, 8, 8, 8, 8, 8, 8, 8, 8, 8, 8, 8, 8, 8, 8, 8, 8, 8, 8, 8, 8, 8, 8, 8, 8, 8, 8, 8, 8, 8,                       8, 8, 8, 8, 8, 8, 8, 8, 8, 8, 8, 8, 8, 8, 8, 8, 8, 8, 8, 8, 8, 8, 8, 8, 8, 8, 8, 8, 8, 8].append                   [8, 8, 8, 8, 8, 8, 8, 8, 8, 8, 8, 8, 8, 8, 8, 8, 8, 8, 8, 8, 8, 8, 8, 8, 8, 8, 8, 8, 8, 8, 8, 8, 8, 8,                     8, 8, 8, 8, 8, 8, 8, 8, 8, 8, 8, 8, 8, 8, 8, 8, 8, 8, 8, 8, 8, 8, 8, 8, 8, 8, 8, 8, 8,                     8])).toArray }         (IntKind.u8.wrap x1))), ()))
      (none))
     (none))))
noncomputable def F_bits_Len64 : A_bits_Len64 → M_bits_Len64 → Option O_bits_Len64 := fun a b => tree_bits_Len64 a.1 some
theorem n_bits_Len64 (x1 : Int) {α : Type} (K : O_bits_Len64 → Option α) : tree_bits_Len64 x1 K = (tree_bits_Len64 x1 some).bind K := by simp only [tree_bits_Len64, bind_cond, bind_none', bind_some', bind_bind', bind_sum]
def args_bits_Len : SkL := (.cons (.leaf (.int .u64)) .nil)
def mem_bits_Len : MSk := []
def outs_bits_Len : List OutC := [⟨(.leaf (.int .i64)), []⟩]
abbrev A_bits_Len : Type := (Int × Unit)
abbrev M_bits_Len : Type := Unit
abbrev O_bits_Len : Type := Int × Unit
def tree_bits_Len (F_bits_Len64 : A_bits_Len64 → M_bits_Len64 → Option O_bits_Len64) {α : Type} (x1 : Int) (K : O_bits_Len → Option α) : Option α :=
  (F_bits_Len64 (x1, ()) ()).bind fun r1 =>
  K (r1.fst, ())
noncomputable def F_bits_Len : A_bits_Len → M_bits_Len → Option O_bits_Len := fun a b => tree_bits_Len F_bits_Len64 a.1 some
theorem n_bits_Len (F_bits_Len64 : A_bits_Len64 → M_bits_Len64 → Option O_bits_Len64) (x1 : Int) {α : Type} (K : O_bits_Len → Option α) : tree_bits_Len F_bits_Len64 x1 K = (tree_bits_Len F_bits_Len64 x1 some).bind K := by simp only [tree_bits_Len, bind_cond, bind_none', bind_some', bind_bind', bind_sum]
theorem Fe_bits_Len (x1 : Int) : F_bits_Len (x1, ()) () = tree_bits_Len F_bits_Len64 x1 some := rfl
def args_slices_nextPowerOfTwo : SkL := (.cons (.leaf (.int .i64)) .nil)
def mem_slices_nextPowerOfTwo : MSk := []
def outs_slices_nextPowerOfTwo : List OutC := [⟨(.leaf (.int .u64)), []⟩]
abbrev A_slices_nextPowerOfTwo : Type := (Int × Unit)
abbrev M_slices_nextPowerOfTwo : Type := Unit
abbrev O_slices_nextPowerOfTwo : Type := Int × Unit
def tree_slices_nextPowerOfTwo (F_bits_Len : A_bits_Len → M_bits_Len → Option O_bits_Len) {α : Type} (x1 : Int) (K : O_slices_nextPowerOfTwo → Option α) : Option α :=
  (F_bits_Len (IntKind.u64.wrap x1, ()) ()).bind fun r1 =>
  cond (decide (0 ≤ r1.fst))
  (K (IntKind.u64.wrap (1 * 2 ^ Min.min r1.fst.toNat 64), ()))
  (none)
noncomputable def F_slices_nextPowerOfTwo : A_slices_nextPowerOfTwo → M_slices_nextPowerOfTwo → Option O_slices_nextPowerOfTwo := fun a b => tree_slices_nextPowerOfTwo F_bits_Len a.1 some
theorem n_slices_nextPowerOfTwo (F_bits_Len : A_bits_Len → M_bits_Len → Option O_bits_Len) (x1 : Int) {α : Type} (K : O_slices_nextPowerOfTwo → Option α) : tree_slices_nextPowerOfTwo F_bits_Len x1 K = (tree_slices_nextPowerOfTwo F_bits_Len x1 some).bind K := by simp only [tree_slices_nextPowerOfTwo, bind_cond, bind_none', bind_some', bind_bind', bind_sum]
theorem Fe_slices_nextPowerOfTwo (x1 : Int) : F_slices_nextPowerOfTwo (x1, ()) () = tree_slices_nextPowerOfTwo F_bits_Len x1 some := rfl
def args_slices_xorshift_Next : SkL := (.cons (.const (.ptr 0 0 0)) .nil)
def mem_slices_xorshift_Next : MSk := [(0, .cells (.cons (.leaf (.int .u64)) .nil))]
def outs_slices_xorshift_Next : List OutC := [⟨(.leaf (.int .u64)), [(0, .cells (.cons (.leaf (.int .u64)) .nil))]⟩]
abbrev A_slices_xorshift_Next : Type := Unit
abbrev M_slices_xorshift_Next : Type := ((Int × Unit) × Unit)
abbrev O_slices_xorshift_Next : Type := Int × ((Int × Unit) × Unit)
def tree_slices_xorshift_Next {α : Type} (x1 : Int) (K : O_slices_xorshift_Next → Option α) : Option α :=
  K (IntKind.u64.wrap   (↑(BitVec.ofInt 64             (IntKind.u64.wrap               (↑(BitVec.ofInt 64                         (IntKind.u64.wrap                           (↑(BitVec.ofInt 64 x1 ^^^ BitVec.ofInt 64 (IntKind.u64.wrap (x1 * 8192))).toNat : Int)) ^^^                       BitVec.ofInt 64                         ((IntKind.u64.wrap                               (↑(BitVec.ofInt 64 x1 ^^^ BitVec.ofInt 64 (IntKind.u64.wrap (x1 * 8192))).toNat :                                 Int)).fdiv                           128)).toNat :                 Int)) ^^^           BitVec.ofInt 64             (IntKind.u64.wrap               (IntKind.u64.wrap                   (↑(BitVec.ofInt 64                             (IntKind.u64.wrap                               (↑(BitVec.ofInt 64 x1 ^^^ BitVec.ofInt 64 (IntKind.u64.wrap (x1 * 8192))).toNat :                                 Int)) ^^^                           BitVec.ofInt 64                             ((IntKind.u64.wrap                                   (↑(BitVec.ofInt 64 x1 ^^^ BitVec.ofInt 64 (IntKind.u64.wrap (x1 * 8192))).toNat :                                     Int)).fdiv                               128)).toNat :                     Int) *                 131072))).toNat :     Int), ((IntKind.u64.wrap   (↑(BitVec.ofInt 64             (IntKind.u64.wrap               (↑(BitVec.ofInt 64                         (IntKind.u64.wrap                           (↑(BitVec.ofInt 64 x1 ^^^ BitVec.ofInt 64 (IntKind.u64.wrap (x1 * 8192))).toNat : Int)) ^^^                       BitVec.ofInt 64                         ((IntKind.u64.wrap                               (↑(BitVec.ofInt 64 x1 ^^^ BitVec.ofInt 64 (IntKind.u64.wrap (x1 * 8192))).toNat :                                 Int)).fdiv                           128)).toNat :                 Int)) ^^^           BitVec.ofInt 64             (IntKind.u64.wrap               (IntKind.u64.wrap                   (↑(BitVec.ofInt 64                             (IntKind.u64.wrap                               (↑(BitVec.ofInt 64 x1 ^^^ BitVec.ofInt 64 (IntKind.u64.wrap (x1 * 8192))).toNat :                                 Int)) ^^^                           BitVec.ofInt 64                             ((IntKind.u64.wrap                                   (↑(BitVec.ofInt 64 x1 ^^^ BitVec.ofInt 64 (IntKind.u64.wrap (x1 * 8192))).toNat :                                     Int)).fdiv                               128)).toNat :                     Int) *                 131072))).toNat :     Int), ()), ()))
noncomputable def F_slices_xorshift_Next : A_slices_xorshift_Next → M_slices_xorshift_Next → Option O_slices_xorshift_Next := fun a b => tree_slices_xorshift_Next b.1.1 some
theorem n_slices_xorshift_Next (x1 : Int) {α : Type} (K : O_slices_xorshift_Next → Option α) : tree_slices_xorshift_Next x1 K = (tree_slices_xorshift_Next x1 some).bind K := by simp only [tree_slices_xorshift_Next, bind_cond, bind_none', bind_some', bind_bind', bind_sum]
theorem Fe_slices_xorshift_Next (x1 : Int) : F_slices_xorshift_Next () ((x1, ()), ()) = tree_slices_xorshift_Next x1 some := rfl
def args_slices_order2Ordered_uint64 : SkL := (.cons (.const (.slw 0)) (.cons (.leaf (.int .i64)) (.cons (.leaf (.int .i64)) (.cons (.const (.ptr 1 0 0)) .nil))))
def mem_slices_order2Ordered_uint64 : MSk := [(0, .row 22 (.cons (.int .u64) .nil)), (1, .cells (.cons (.leaf (.int .i64)) .nil))]
def outs_slices_order2Ordered_uint64 : List OutC := [⟨(.tup (.cons (.leaf (.int .i64)) (.cons (.leaf (.int .i64)) .nil))), [(0, .row 22 (.cons (.int .u64) .nil)), (1, .cells (.cons (.leaf (.int .i64)) .nil))]⟩]
abbrev A_slices_order2Ordered_uint64 : Type := (Int × Int × Unit)
abbrev M_slices_order2Ordered_uint64 : Type := (List Int × (Int × Unit) × Unit)
abbrev O_slices_order2Ordered_uint64 : Type := (Int × Int × Unit) × (List Int × (Int × Unit) × Unit)
def tree_slices_order2Ordered_uint64 (F_cmp_Less_uint64 : A_cmp_Less_uint64 → M_cmp_Less_uint64 → Option O_cmp_Less_uint64) {α : Type} (x1 : Int) (x2 : Int) (x3 : List Int) (x4 : Int) (K : O_slices_order2Ordered_uint64 → Option α) : Option α :=
  cond (decide (0 ≤ x2))
  (cond (decide (x2 < (↑x3.length : Int)))
   (cond (decide (0 ≤ x1))
    (cond (decide (x1 < (↑x3.length : Int)))
     ((F_cmp_Less_uint64 (x3.getD (0 + x2.toNat) 0, x3.getD (0 + x1.toNat) 0, ()) ()).bind fun r1 =>
      cond (r1.fst)
      (K ((x2, (x1, ())), (x3, ((IntKind.i64.wrap (x4 + 1), ()), ()))))
      (K ((x1, (x2, ())), (x3, ((x4, ()), ())))))
     (none))
    (none))
   (none))
  (none)
noncomputable def F_slices_order2Ordered_uint64 : A_slices_order2Ordered_uint64 → M_slices_order2Ordered_uint64 → Option O_slices_order2Ordered_uint64 := fun a b => tree_slices_order2Ordered_uint64 F_cmp_Less_uint64 a.1 a.2.1 b.1 b.2.1.1 some
theorem n_slices_order2Ordered_uint64 (F_cmp_Less_uint64 : A_cmp_Less_uint64 → M_cmp_Less_uint64 → Option O_cmp_Less_uint64) (x1 : Int) (x2 : Int) (x3 : List Int) (x4 : Int) {α : Type} (K : O_slices_order2Ordered_uint64 → Option α) : tree_slices_order2Ordered_uint64 F_cmp_Less_uint64 x1 x2 x3 x4 K = (tree_slices_order2Ordered_uint64 F_cmp_Less_uint64 x1 x2 x3 x4 some).bind K := by simp only [tree_slices_order2Ordered_uint64, bind_cond, bind_none', bind_some', bind_bind', bind_sum]
theorem Fe_slices_order2Ordered_uint64 (x1 : Int) (x2 : Int) (x3 : List Int) (x4 : Int) : F_slices_order2Ordered_uint64 (x1, (x2, ())) (x3, ((x4, ()), ())) = tree_slices_order2Ordered_uint64 F_cmp_Less_uint64 x1 x2 x3 x4 some := rfl
def args_slices_reverseRangeOrdered_uint64 : SkL := (.cons (.const (.slw 0)) (.cons (.leaf (.int .i64)) (.cons (.leaf (.int .i64)) .nil)))
def mem_slices_reverseRangeOrdered_uint64 : MSk := [(0, .row 22 (.cons (.int .u64) .nil))]
def outs_slices_reverseRangeOrdered_uint64 : List OutC := [⟨(.tup .nil), [(0, .row 22 (.cons (.int .u64) .nil))]⟩]
abbrev A_slices_reverseRangeOrdered_uint64 : Type := (Int × Int × Unit)
abbrev M_slices_reverseRangeOrdered_uint64 : Type := (List Int × Unit)
abbrev O_slices_reverseRangeOrdered_uint64 : Type := Unit × (List Int × Unit)
def ltmps_slices_reverseRangeOrdered_uint64_2 : SkL := (.cons (.const (.slw 0)) (dz 5 (.cons (.leaf (.int .i64)) (.cons (.leaf (.int .i64)) (dz 24 .nil)))))
def lmem_slices_reverseRangeOrdered_uint64_2 : MSk := [(0, .row 22 (.cons (.int .u64) .nil))]
def louts_slices_reverseRangeOrdered_uint64_2 : List OutL := [⟨(.exit 0), (dz 32 .nil), [(0, .row 22 (.cons (.int .u64) .nil))]⟩]
abbrev LT_slices_reverseRangeOrdered_uint64_2 : Type := (Int × Int × Unit)
abbrev LM_slices_reverseRangeOrdered_uint64_2 : Type := (List Int × Unit)
abbrev LO_slices_reverseRangeOrdered_uint64_2 : Type := Unit × (List Int × Unit)
def ltree_slices_reverseRangeOrdered_uint64_2 {α : Type} (x1 : Int) (x2 : Int) (x3 : List Int) (kn : LT_slices_reverseRangeOrdered_uint64_2 → LM_slices_reverseRangeOrdered_uint64_2 → Option α) (kr : LO_slices_reverseRangeOrdered_uint64_2 → Option α) : Option α :=
  cond (decide (x1 < x2))
  (cond (decide (0 ≤ x2))
   (cond (decide (x2 < (↑x3.length : Int)))
    (cond (decide (0 ≤ x1))
     (cond (decide (x1 < (↑x3.length : Int)))
      (cond (decide (0 ≤ x1))
       (cond (decide (x1 < (↑x3.length : Int)))
        (cond (decide (0 ≤ x2))
         (cond (decide (x2 < (↑(x3.set (0 + x1.toNat) (x3.getD (0 + x2.toNat) 0)).length : Int)))
          (kn (IntKind.i64.wrap (x1 + 1), (IntKind.i64.wrap (x2 - 1), ())) ((x3.set (0 + x1.toNat) (x3.getD (0 + x2.toNat) 0)).set (0 + x2.toNat) (x3.getD (0 + x1.toNat) 0), ()))
          (none))
         (none))
        (none))
       (none))
      (none))
     (none))
    (none))
   (none))
  (kr ((), (x3, ())))
noncomputable def L_slices_reverseRangeOrdered_uint64_2 : LT_slices_reverseRangeOrdered_uint64_2 → LM_slices_reverseRangeOrdered_uint64_2 → Option LO_slices_reverseRangeOrdered_uint64_2 := fun x y => runL (fun p => (fun (a : LT_slices_reverseRangeOrdered_uint64_2) (b : LM_slices_reverseRangeOrdered_uint64_2) => ltree_slices_reverseRangeOrdered_uint64_2 a.1 a.2.1 b.1 (fun a' b' => some (.inl (a', b'))) fun r => some (.inr r)) p.1 p.2) (x, y)
theorem nl_slices_reverseRangeOrdered_uint64_2 (x1 : Int) (x2 : Int) (x3 : List Int) {α : Type} (kn : LT_slices_reverseRangeOrdered_uint64_2 → LM_slices_reverseRangeOrdered_uint64_2 → Option α) (kr : LO_slices_reverseRangeOrdered_uint64_2 → Option α) : ltree_slices_reverseRangeOrdered_uint64_2 x1 x2 x3 kn kr = (ltree_slices_reverseRangeOrdered_uint64_2 x1 x2 x3 (fun a b => some (.inl (a, b))) fun r => some (.inr r)).bind (Sum.elim (fun p : LT_slices_reverseRangeOrdered_uint64_2 × LM_slices_reverseRangeOrdered_uint64_2 => kn p.1 p.2) kr) := by simp only [ltree_slices_reverseRangeOrdered_uint64_2, bind_cond, bind_none', bind_some', bind_bind', bind_sum, Sum.elim_inl, Sum.elim_inr]
theorem Le_slices_reverseRangeOrdered_uint64_2 (x1 : Int) (x2 : Int) (x3 : List Int) : L_slices_reverseRangeOrdered_uint64_2 (x1, (x2, ())) (x3, ()) = ltree_slices_reverseRangeOrdered_uint64_2 x1 x2 x3 L_slices_reverseRangeOrdered_uint64_2 some := runL_tree (A := LT_slices_reverseRangeOrdered_uint64_2) (B := LM_slices_reverseRangeOrdered_uint64_2) (R := LO_slices_reverseRangeOrdered_uint64_2) (fun a b kn kr => ltree_slices_reverseRangeOrdered_uint64_2 a.1 a.2.1 b.1 kn kr) (fun a b kn kr => nl_slices_reverseRangeOrdered_uint64_2 a.1 a.2.1 b.1 kn kr) (x1, (x2, ())) (x3, ())
def tree_slices_reverseRangeOrdered_uint64 (L_slices_reverseRangeOrdered_uint64_2 : LT_slices_reverseRangeOrdered_uint64_2 → LM_slices_reverseRangeOrdered_uint64_2 → Option LO_slices_reverseRangeOrdered_uint64_2) {α : Type} (x1 : Int) (x2 : Int) (x3 : List Int) (K : O_slices_reverseRangeOrdered_uint64 → Option α) : Option α :=
  (L_slices_reverseRangeOrdered_uint64_2 (x1, IntKind.i64.wrap (x2 - 1), ()) (x3, ())).bind fun r1 =>
  K ((), (r1.snd.fst, ()))
noncomputable def F_slices_reverseRangeOrdered_uint64 : A_slices_reverseRangeOrdered_uint64 → M_slices_reverseRangeOrdered_uint64 → Option O_slices_reverseRangeOrdered_uint64 := fun a b => tree_slices_reverseRangeOrdered_uint64 L_slices_reverseRangeOrdered_uint64_2 a.1 a.2.1 b.1 some
theorem n_slices_reverseRangeOrdered_uint64 (L_slices_reverseRangeOrdered_uint64_2 : LT_slices_reverseRangeOrdered_uint64_2 → LM_slices_reverseRangeOrdered_uint64_2 → Option LO_slices_reverseRangeOrdered_uint64_2) (x1 : Int) (x2 : Int) (x3 : List Int) {α : Type} (K : O_slices_reverseRangeOrdered_uint64 → Option α) : tree_slices_reverseRangeOrdered_uint64 L_slices_reverseRangeOrdered_uint64_2 x1 x2 x3 K = (tree_slices_reverseRangeOrdered_uint64 L_slices_reverseRangeOrdered_uint64_2 x1 x2 x3 some).bind K := by simp only [tree_slices_reverseRangeOrdered_uint64, bind_cond, bind_none', bind_some', bind_bind', bind_sum]
theorem Fe_slices_reverseRangeOrdered_uint64 (x1 : Int) (x2 : Int) (x3 : List Int) : F_slices_reverseRangeOrdered_uint64 (x1, (x2, ())) (x3, ()) = tree_slices_reverseRangeOrdered_uint64 L_slices_reverseRangeOrdered_uint64_2 x1 x2 x3 some := rfl
def args_slices_medianOrdered_uint64 : SkL := (.cons (.const (.slw 0)) (.cons (.leaf (.int .i64)) (.cons (.leaf (.int .i64)) (.cons (.leaf (.int .i64)) (.cons (.const (.ptr 1 0 0)) .nil)))))
def mem_slices_medianOrdered_uint64 : MSk := [(0, .row 22 (.cons (.int .u64) .nil)), (1, .cells (.cons (.leaf (.int .i64)) .nil))]
def outs_slices_medianOrdered_uint64 : List OutC := [⟨(.leaf (.int .i64)), [(0, .row 22 (.cons (.int .u64) .nil)), (1, .cells (.cons (.leaf (.int .i64)) .nil))]⟩]
abbrev A_slices_medianOrdered_uint64 : Type := (Int × Int × Int × Unit)
abbrev M_slices_medianOrdered_uint64 : Type := (List Int × (Int × Unit) × Unit)
abbrev O_slices_medianOrdered_uint64 : Type := Int × (List Int × (Int × Unit) × Unit)
def tree_slices_medianOrdered_uint64 (F_slices_order2Ordered_uint64 : A_slices_order2Ordered_uint64 → M_slices_order2Ordered_uint64 → Option O_slices_order2Ordered_uint64) {α : Type} (x1 : Int) (x2 : Int) (x3 : Int) (x4 : List Int) (x5 : Int) (K : O_slices_medianOrdered_uint64 → Option α) : Option α :=
  (F_slices_order2Ordered_uint64 (x1, x2, ()) (x4, (x5, ()), ())).bind fun r1 =>
  (F_slices_order2Ordered_uint64 (r1.fst.snd.fst, x3, ()) (r1.snd.fst, (r1.snd.snd.fst.fst, ()), ())).bind fun r2 =>
  (F_slices_order2Ordered_uint64 (r1.fst.fst, r2.fst.fst, ()) (r2.snd.fst, (r2.snd.snd.fst.fst, ()), ())).bind fun r3 =>
  K (r3.fst.snd.fst, (r3.snd.fst, ((r3.snd.snd.fst.fst, ()), ())))
noncomputable def F_slices_medianOrdered_uint64 : A_slices_medianOrdered_uint64 → M_slices_medianOrdered_uint64 → Option O_slices_medianOrdered_uint64 := fun a b => tree_slices_medianOrdered_uint64 F_slices_order2Ordered_uint64 a.1 a.2.1 a.2.2.1 b.1 b.2.1.1 some
theorem n_slices_medianOrdered_uint64 (F_slices_order2Ordered_uint64 : A_slices_order2Ordered_uint64 → M_slices_order2Ordered_uint64 → Option O_slices_order2Ordered_uint64) (x1 : Int) (x2 : Int) (x3 : Int) (x4 : List Int) (x5 : Int) {α : Type} (K : O_slices_medianOrdered_uint64 → Option α) : tree_slices_medianOrdered_uint64 F_slices_order2Ordered_uint64 x1 x2 x3 x4 x5 K = (tree_slices_medianOrdered_uint64 F_slices_order2Ordered_uint64 x1 x2 x3 x4 x5 some).bind K := by simp only [tree_slices_medianOrdered_uint64, bind_cond, bind_none', bind_some', bind_bind', bind_sum]
theorem Fe_slices_medianOrdered_uint64 (x1 : Int) (x2 : Int) (x3 : Int) (x4 : List Int) (x5 : Int) : F_slices_medianOrdered_uint64 (x1, (x2, (x3, ()))) (x4, ((x5, ()), ())) = tree_slices_medianOrdered_uint64 F_slices_order2Ordered_uint64 x1 x2 x3 x4 x5 some := rfl
def args_slices_medianAdjacentOrdered_uint64 : SkL := (.cons (.const (.slw 0)) (.cons (.leaf (.int .i64)) (.cons (.const (.ptr 1 0 0)) .nil)))
def mem_slices_medianAdjacentOrdered_uint64 : MSk := [(0, .row 22 (.cons (.int .u64) .nil)), (1, .cells (.cons (.leaf (.int .i64)) .nil))]
def outs_slices_medianAdjacentOrdered_uint64 : List OutC := [⟨(.leaf (.int .i64)), [(0, .row 22 (.cons (.int .u64) .nil)), (1, .cells (.cons (.leaf (.int .i64)) .nil))]⟩]
abbrev A_slices_medianAdjacentOrdered_uint64 : Type := (Int × Unit)
abbrev M_slices_medianAdjacentOrdered_uint64 : Type := (List Int × (Int × Unit) × Unit)
abbrev O_slices_medianAdjacentOrdered_uint64 : Type := Int × (List Int × (Int × Unit) × Unit)
def tree_slices_medianAdjacentOrdered_uint64 (F_slices_medianOrdered_uint64 : A_slices_medianOrdered_uint64 → M_slices_medianOrdered_uint64 → Option O_slices_medianOrdered_uint64) {α : Type} (x1 : Int) (x2 : List Int) (x3 : Int) (K : O_slices_medianAdjacentOrdered_uint64 → Option α) : Option α :=
  (F_slices_medianOrdered_uint64 (IntKind.i64.wrap (x1 - 1), x1, IntKind.i64.wrap (x1 + 1), ())   (x2, (x3, ()), ())).bind fun r1 =>
  K (r1.fst, (r1.snd.fst, ((r1.snd.snd.fst.fst, ()), ())))
noncomputable def F_slices_medianAdjacentOrdered_uint64 : A_slices_medianAdjacentOrdered_uint64 → M_slices_medianAdjacentOrdered_uint64 → Option O_slices_medianAdjacentOrdered_uint64 := fun a b => tree_slices_medianAdjacentOrdered_uint64 F_slices_medianOrdered_uint64 a.1 b.1 b.2.1.1 some
theorem n_slices_medianAdjacentOrdered_uint64 (F_slices_medianOrdered_uint64 : A_slices_medianOrdered_uint64 → M_slices_medianOrdered_uint64 → Option O_slices_medianOrdered_uint64) (x1 : Int) (x2 : List Int) (x3 : Int) {α : Type} (K : O_slices_medianAdjacentOrdered_uint64 → Option α) : tree_slices_medianAdjacentOrdered_uint64 F_slices_medianOrdered_uint64 x1 x2 x3 K = (tree_slices_medianAdjacentOrdered_uint64 F_slices_medianOrdered_uint64 x1 x2 x3 some).bind K := by simp only [tree_slices_medianAdjacentOrdered_uint64, bind_cond, bind_none', bind_some', bind_bind', bind_sum]
theorem Fe_slices_medianAdjacentOrdered_uint64 (x1 : Int) (x2 : List Int) (x3 : Int) : F_slices_medianAdjacentOrdered_uint64 (x1, ()) (x2, ((x3, ()), ())) = tree_slices_medianAdjacentOrdered_uint64 F_slices_medianOrdered_uint64 x1 x2 x3 some := rfl
def args_slices_choosePivotOrdered_uint64 : SkL := (.cons (.const (.slw 0)) (.cons (.leaf (.int .i64)) (.cons (.leaf (.int .i64)) .nil)))
def mem_slices_choosePivotOrdered_uint64 : MSk := [(0, .row 22 (.cons (.int .u64) .nil))]
def outs_slices_choosePivotOrdered_uint64 : List OutC := [⟨(.tup (.cons (.leaf (.int .i64)) (.cons (.leaf (.int .i64)) .nil))), [(0, .row 22 (.cons (.int .u64) .nil))]⟩]
abbrev A_slices_choosePivotOrdered_uint64 : Type := (Int × Int × Unit)
abbrev M_slices_choosePivotOrdered_uint64 : Type := (List Int × Unit)
abbrev O_slices_choosePivotOrdered_uint64 : Type := (Int × Int × Unit) × (List Int × Unit)
def tree_slices_choosePivotOrdered_uint64 (F_slices_medianAdjacentOrdered_uint64 : A_slices_medianAdjacentOrdered_uint64 → M_slices_medianAdjacentOrdered_uint64 → Option O_slices_medianAdjacentOrdered_uint64) (F_slices_medianOrdered_uint64 : A_slices_medianOrdered_uint64 → M_slices_medianOrdered_uint64 → Option O_slices_medianOrdered_uint64) {α : Type} (x1 : Int) (x2 : Int) (x3 : List Int) (K : O_slices_choosePivotOrdered_uint64 → Option α) : Option α :=
  cond (decide (IntKind.i64.wrap (x2 - x1) ≥ 8))
  (cond (decide (IntKind.i64.wrap (x2 - x1) ≥ 50))
   ((F_slices_medianAdjacentOrdered_uint64   (IntKind.i64.wrap (x1 + IntKind.i64.wrap (IntKind.i64.wrap ((IntKind.i64.wrap (x2 - x1)).tdiv 4) * 1)),     ())   (x3, (0, ()), ())).bind fun r1 =>
    (F_slices_medianAdjacentOrdered_uint64   (IntKind.i64.wrap (x1 + IntKind.i64.wrap (IntKind.i64.wrap ((IntKind.i64.wrap (x2 - x1)).tdiv 4) * 2)),     ())   (r1.snd.fst, (r1.snd.snd.fst.fst, ()), ())).bind fun r2 =>
    (F_slices_medianAdjacentOrdered_uint64   (IntKind.i64.wrap (x1 + IntKind.i64.wrap (IntKind.i64.wrap ((IntKind.i64.wrap (x2 - x1)).tdiv 4) * 3)),     ())   (r2.snd.fst, (r2.snd.snd.fst.fst, ()), ())).bind fun r3 =>
    (F_slices_medianOrdered_uint64 (r1.fst, r2.fst, r3.fst, ()) (r3.snd.fst, (r3.snd.snd.fst.fst, ()), ())).bind fun r4 =>
    cond (r4.snd.snd.fst.fst == 0)
    (K ((r4.fst, (1, ())), (r4.snd.fst, ())))
    (cond (r4.snd.snd.fst.fst == 12)
     (K ((r4.fst, (2, ())), (r4.snd.fst, ())))
     (K ((r4.fst, (0, ())), (r4.snd.fst, ())))))
   ((F_slices_medianOrdered_uint64   (IntKind.i64.wrap (x1 + IntKind.i64.wrap (IntKind.i64.wrap ((IntKind.i64.wrap (x2 - x1)).tdiv 4) * 1)),     IntKind.i64.wrap (x1 + IntKind.i64.wrap (IntKind.i64.wrap ((IntKind.i64.wrap (x2 - x1)).tdiv 4) * 2)),     IntKind.i64.wrap (x1 + IntKind.i64.wrap (IntKind.i64.wrap ((IntKind.i64.wrap (x2 - x1)).tdiv 4) * 3)),     ())   (x3, (0, ()), ())).bind fun r5 =>
    cond (r5.snd.snd.fst.fst == 0)
    (K ((r5.fst, (1, ())), (r5.snd.fst, ())))
    (cond (r5.snd.snd.fst.fst == 12)
     (K ((r5.fst, (2, ())), (r5.snd.fst, ())))
     (K ((r5.fst, (0, ())), (r5.snd.fst, ()))))))
  (K ((IntKind.i64.wrap (x1 + IntKind.i64.wrap (IntKind.i64.wrap ((IntKind.i64.wrap (x2 - x1)).tdiv 4) * 2)), (1, ())), (x3, ())))
noncomputable def F_slices_choosePivotOrdered_uint64 : A_slices_choosePivotOrdered_uint64 → M_slices_choosePivotOrdered_uint64 → Option O_slices_choosePivotOrdered_uint64 := fun a b => tree_slices_choosePivotOrdered_uint64 F_slices_medianAdjacentOrdered_uint64 F_slices_medianOrdered_uint64 a.1 a.2.1 b.1 some
theorem n_slices_choosePivotOrdered_uint64 (F_slices_medianAdjacentOrdered_uint64 : A_slices_medianAdjacentOrdered_uint64 → M_slices_medianAdjacentOrdered_uint64 → Option O_slices_medianAdjacentOrdered_uint64) (F_slices_medianOrdered_uint64 : A_slices_medianOrdered_uint64 → M_slices_medianOrdered_uint64 → Option O_slices_medianOrdered_uint64) (x1 : Int) (x2 : Int) (x3 : List Int) {α : Type} (K : O_slices_choosePivotOrdered_uint64 → Option α) : tree_slices_choosePivotOrdered_uint64 F_slices_medianAdjacentOrdered_uint64 F_slices_medianOrdered_uint64 x1 x2 x3 K = (tree_slices_choosePivotOrdered_uint64 F_slices_medianAdjacentOrdered_uint64 F_slices_medianOrdered_uint64 x1 x2 x3 some).bind K := by simp only [tree_slices_choosePivotOrdered_uint64, bind_cond, bind_none', bind_some', bind_bind', bind_sum]
theorem Fe_slices_choosePivotOrdered_uint64 (x1 : Int) (x2 : Int) (x3 : List Int) : F_slices_choosePivotOrdered_uint64 (x1, (x2, ())) (x3, ()) = tree_slices_choosePivotOrdered_uint64 F_slices_medianAdjacentOrdered_uint64 F_slices_medianOrdered_uint64 x1 x2 x3 some := rfl
def args_slices_heapSortOrdered_uint64 : SkL := (.cons (.const (.slw 0)) (.cons (.leaf (.int .i64)) (.cons (.leaf (.int .i64)) .nil)))
def mem_slices_heapSortOrdered_uint64 : MSk := [(0, .row 22 (.cons (.int .u64) .nil))]
def outs_slices_heapSortOrdered_uint64 : List OutC := [⟨(.tup .nil), [(0, .row 22 (.cons (.int .u64) .nil))]⟩]
abbrev A_slices_heapSortOrdered_uint64 : Type := (Int × Int × Unit)
abbrev M_slices_heapSortOrdered_uint64 : Type := (List Int × Unit)
abbrev O_slices_heapSortOrdered_uint64 : Type := Unit × (List Int × Unit)
def ltmps_slices_heapSortOrdered_uint64_4 : SkL := (.cons (.const (.slw 0)) (dz 5 (.cons (.leaf (.int .i64)) (.cons (.leaf (.int .i64)) (.cons (.leaf (.int .i64)) (.cons (.leaf (.int .i64)) (dz 46 .nil)))))))
def lmem_slices_heapSortOrdered_uint64_4 : MSk := [(0, .row 22 (.cons (.int .u64) .nil))]
def louts_slices_heapSortOrdered_uint64_4 : List OutL := [⟨(.exit 0), (.cons (.const (.slw 0)) (dz 5 (.cons (.leaf (.int .i64)) (.cons (.leaf (.int .i64)) (.cons (.leaf (.int .i64)) (dz 47 .nil)))))), [(0, .row 22 (.cons (.int .u64) .nil))]⟩]
abbrev LT_slices_heapSortOrdered_uint64_4 : Type := (Int × Int × Int × Int × Unit)
abbrev LM_slices_heapSortOrdered_uint64_4 : Type := (List Int × Unit)
abbrev LO_slices_heapSortOrdered_uint64_4 : Type := (Int × Int × Int × Unit) × (List Int × Unit)
def ltree_slices_heapSortOrdered_uint64_4 (F_slices_siftDownOrdered_uint64 : A_slices_siftDownOrdered_uint64 → M_slices_siftDownOrdered_uint64 → Option O_slices_siftDownOrdered_uint64) {α : Type} (x1 : Int) (x2 : Int) (x3 : Int) (x4 : Int) (x5 : List Int) (kn : LT_slices_heapSortOrdered_uint64_4 → LM_slices_heapSortOrdered_uint64_4 → Option α) (kr : LO_slices_heapSortOrdered_uint64_4 → Option α) : Option α :=
  cond (decide (x4 ≥ 0))
  ((F_slices_siftDownOrdered_uint64 (x4, x3, x1, ()) (x5, ())).bind fun r1 =>
   kn (x1, (x2, (x3, (IntKind.i64.wrap (x4 - 1), ())))) (r1.snd.fst, ()))
  (kr ((x1, (x2, (x3, ()))), (x5, ())))
noncomputable def L_slices_heapSortOrdered_uint64_4 : LT_slices_heapSortOrdered_uint64_4 → LM_slices_heapSortOrdered_uint64_4 → Option LO_slices_heapSortOrdered_uint64_4 := fun x y => runL (fun p => (fun (a : LT_slices_heapSortOrdered_uint64_4) (b : LM_slices_heapSortOrdered_uint64_4) => ltree_slices_heapSortOrdered_uint64_4 F_slices_siftDownOrdered_uint64 a.1 a.2.1 a.2.2.1 a.2.2.2.1 b.1 (fun a' b' => some (.inl (a', b'))) fun r => some (.inr r)) p.1 p.2) (x, y)
theorem nl_slices_heapSortOrdered_uint64_4 (F_slices_siftDownOrdered_uint64 : A_slices_siftDownOrdered_uint64 → M_slices_siftDownOrdered_uint64 → Option O_slices_siftDownOrdered_uint64) (x1 : Int) (x2 : Int) (x3 : Int) (x4 : Int) (x5 : List Int) {α : Type} (kn : LT_slices_heapSortOrdered_uint64_4 → LM_slices_heapSortOrdered_uint64_4 → Option α) (kr : LO_slices_heapSortOrdered_uint64_4 → Option α) : ltree_slices_heapSortOrdered_uint64_4 F_slices_siftDownOrdered_uint64 x1 x2 x3 x4 x5 kn kr = (ltree_slices_heapSortOrdered_uint64_4 F_slices_siftDownOrdered_uint64 x1 x2 x3 x4 x5 (fun a b => some (.inl (a, b))) fun r => some (.inr r)).bind (Sum.elim (fun p : LT_slices_heapSortOrdered_uint64_4 × LM_slices_heapSortOrdered_uint64_4 => kn p.1 p.2) kr) := by simp only [ltree_slices_heapSortOrdered_uint64_4, bind_cond, bind_none', bind_some', bind_bind', bind_sum, Sum.elim_inl, Sum.elim_inr]
theorem Le_slices_heapSortOrdered_uint64_4 (x1 : Int) (x2 : Int) (x3 : Int) (x4 : Int) (x5 : List Int) : L_slices_heapSortOrdered_uint64_4 (x1, (x2, (x3, (x4, ())))) (x5, ()) = ltree_slices_heapSortOrdered_uint64_4 F_slices_siftDownOrdered_uint64 x1 x2 x3 x4 x5 L_slices_heapSortOrdered_uint64_4 some := runL_tree (A := LT_slices_heapSortOrdered_uint64_4) (B := LM_slices_heapSortOrdered_uint64_4) (R := LO_slices_heapSortOrdered_uint64_4) (fun a b kn kr => ltree_slices_heapSortOrdered_uint64_4 F_slices_siftDownOrdered_uint64 a.1 a.2.1 a.2.2.1 a.2.2.2.1 b.1 kn kr) (fun a b kn kr => nl_slices_heapSortOrdered_uint64_4 F_slices_siftDownOrdered_uint64 a.1 a.2.1 a.2.2.1 a.2.2.2.1 b.1 kn kr) (x1, (x2, (x3, (x4, ())))) (x5, ())
def ltmps_slices_heapSortOrdered_uint64_8 : SkL := (.cons (.const (.slw 0)) (dz 5 (.cons (.leaf (.int .i64)) (.cons (.leaf (.int .i64)) (dz 2 (.cons (.leaf (.int .i64)) (dz 45 .nil)))))))
def lmem_slices_heapSortOrdered_uint64_8 : MSk := [(0, .row 22 (.cons (.int .u64) .nil))]
def louts_slices_heapSortOrdered_uint64_8 : List OutL := [⟨(.exit 2), (dz 56 .nil), [(0, .row 22 (.cons (.int .u64) .nil))]⟩]
abbrev LT_slices_heapSortOrdered_uint64_8 : Type := (Int × Int × Int × Unit)
abbrev LM_slices_heapSortOrdered_uint64_8 : Type := (List Int × Unit)
abbrev LO_slices_heapSortOrdered_uint64_8 : Type := Unit × (List Int × Unit)
def ltree_slices_heapSortOrdered_uint64_8 (F_slices_siftDownOrdered_uint64 : A_slices_siftDownOrdered_uint64 → M_slices_siftDownOrdered_uint64 → Option O_slices_siftDownOrdered_uint64) {α : Type} (x1 : Int) (x2 : Int) (x3 : Int) (x4 : List Int) (kn : LT_slices_heapSortOrdered_uint64_8 → LM_slices_heapSortOrdered_uint64_8 → Option α) (kr : LO_slices_heapSortOrdered_uint64_8 → Option α) : Option α :=
  cond (decide (x3 ≥ 0))
  (cond (decide (0 ≤ IntKind.i64.wrap (x1 + x3)))
   (cond (decide (IntKind.i64.wrap (x1 + x3) < (↑x4.length : Int)))
    (cond (decide (0 ≤ x1))
     (cond (decide (x1 < (↑x4.length : Int)))
      (cond (decide (0 ≤ x1))
       (cond (decide (x1 < (↑x4.length : Int)))
        (cond (decide (0 ≤ IntKind.i64.wrap (x1 + x3)))
         (cond (decide   (IntKind.i64.wrap (x1 + x3) <     (↑(x4.set (0 + x1.toNat) (x4.getD (0 + (IntKind.i64.wrap (x1 + x3)).toNat) 0)).length : Int)))
          ((F_slices_siftDownOrdered_uint64 (x2, x3, x1, ())   ((x4.set (0 + x1.toNat) (x4.getD (0 + (IntKind.i64.wrap (x1 + x3)).toNat) 0)).set       (0 + (IntKind.i64.wrap (x1 + x3)).toNat) (x4.getD (0 + x1.toNat) 0),     ())).bind fun r1 =>
           kn (x1, (x2, (IntKind.i64.wrap (x3 - 1), ()))) (r1.snd.fst, ()))
          (none))
         (none))
        (none))
       (none))
      (none))
     (none))
    (none))
   (none))
  (kr ((), (x4, ())))
noncomputable def L_slices_heapSortOrdered_uint64_8 : LT_slices_heapSortOrdered_uint64_8 → LM_slices_heapSortOrdered_uint64_8 → Option LO_slices_heapSortOrdered_uint64_8 := fun x y => runL (fun p => (fun (a : LT_slices_heapSortOrdered_uint64_8) (b : LM_slices_heapSortOrdered_uint64_8) => ltree_slices_heapSortOrdered_uint64_8 F_slices_siftDownOrdered_uint64 a.1 a.2.1 a.2.2.1 b.1 (fun a' b' => some (.inl (a', b'))) fun r => some (.inr r)) p.1 p.2) (x, y)
theorem nl_slices_heapSortOrdered_uint64_8 (F_slices_siftDownOrdered_uint64 : A_slices_siftDownOrdered_uint64 → M_slices_siftDownOrdered_uint64 → Option O_slices_siftDownOrdered_uint64) (x1 : Int) (x2 : Int) (x3 : Int) (x4 : List Int) {α : Type} (kn : LT_slices_heapSortOrdered_uint64_8 → LM_slices_heapSortOrdered_uint64_8 → Option α) (kr : LO_slices_heapSortOrdered_uint64_8 → Option α) : ltree_slices_heapSortOrdered_uint64_8 F_slices_siftDownOrdered_uint64 x1 x2 x3 x4 kn kr = (ltree_slices_heapSortOrdered_uint64_8 F_slices_siftDownOrdered_uint64 x1 x2 x3 x4 (fun a b => some (.inl (a, b))) fun r => some (.inr r)).bind (Sum.elim (fun p : LT_slices_heapSortOrdered_uint64_8 × LM_slices_heapSortOrdered_uint64_8 => kn p.1 p.2) kr) := by simp only [ltree_slices_heapSortOrdered_uint64_8, bind_cond, bind_none', bind_some', bind_bind', bind_sum, Sum.elim_inl, Sum.elim_inr]
theorem Le_slices_heapSortOrdered_uint64_8 (x1 : Int) (x2 : Int) (x3 : Int) (x4 : List Int) : L_slices_heapSortOrdered_uint64_8 (x1, (x2, (x3, ()))) (x4, ()) = ltree_slices_heapSortOrdered_uint64_8 F_slices_siftDownOrdered_uint64 x1 x2 x3 x4 L_slices_heapSortOrdered_uint64_8 some := runL_tree (A := LT_slices_heapSortOrdered_uint64_8) (B := LM_slices_heapSortOrdered_uint64_8) (R := LO_slices_heapSortOrdered_uint64_8) (fun a b kn kr => ltree_slices_heapSortOrdered_uint64_8 F_slices_siftDownOrdered_uint64 a.1 a.2.1 a.2.2.1 b.1 kn kr) (fun a b kn kr => nl_slices_heapSortOrdered_uint64_8 F_slices_siftDownOrdered_uint64 a.1 a.2.1 a.2.2.1 b.1 kn kr) (x1, (x2, (x3, ()))) (x4, ())
def tree_slices_heapSortOrdered_uint64 (L_slices_heapSortOrdered_uint64_4 : LT_slices_heapSortOrdered_uint64_4 → LM_slices_heapSortOrdered_uint64_4 → Option LO_slices_heapSortOrdered_uint64_4) (L_slices_heapSortOrdered_uint64_8 : LT_slices_heapSortOrdered_uint64_8 → LM_slices_heapSortOrdered_uint64_8 → Option LO_slices_heapSortOrdered_uint64_8) {α : Type} (x1 : Int) (x2 : Int) (x3 : List Int) (K : O_slices_heapSortOrdered_uint64 → Option α) : Option α :=
  (L_slices_heapSortOrdered_uint64_4   (x1, 0, IntKind.i64.wrap (x2 - x1),     IntKind.i64.wrap ((IntKind.i64.wrap (IntKind.i64.wrap (x2 - x1) - 1)).tdiv 2), ())   (x3, ())).bind fun r1 =>
  (L_slices_heapSortOrdered_uint64_8 (r1.fst.fst, r1.fst.snd.fst, IntKind.i64.wrap (r1.fst.snd.snd.fst - 1), ())   (r1.snd.fst, ())).bind fun r2 =>
  K ((), (r2.snd.fst, ()))
noncomputable def F_slices_heapSortOrdered_uint64 : A_slices_heapSortOrdered_uint64 → M_slices_heapSortOrdered_uint64 → Option O_slices_heapSortOrdered_uint64 := fun a b => tree_slices_heapSortOrdered_uint64 L_slices_heapSortOrdered_uint64_4 L_slices_heapSortOrdered_uint64_8 a.1 a.2.1 b.1 some
theorem n_slices_heapSortOrdered_uint64 (L_slices_heapSortOrdered_uint64_4 : LT_slices_heapSortOrdered_uint64_4 → LM_slices_heapSortOrdered_uint64_4 → Option LO_slices_heapSortOrdered_uint64_4) (L_slices_heapSortOrdered_uint64_8 : LT_slices_heapSortOrdered_uint64_8 → LM_slices_heapSortOrdered_uint64_8 → Option LO_slices_heapSortOrdered_uint64_8) (x1 : Int) (x2 : Int) (x3 : List Int) {α : Type} (K : O_slices_heapSortOrdered_uint64 → Option α) : tree_slices_heapSortOrdered_uint64 L_slices_heapSortOrdered_uint64_4 L_slices_heapSortOrdered_uint64_8 x1 x2 x3 K = (tree_slices_heapSortOrdered_uint64 L_slices_heapSortOrdered_uint64_4 L_slices_heapSortOrdered_uint64_8 x1 x2 x3 some).bind K := by simp only [tree_slices_heapSortOrdered_uint64, bind_cond, bind_none', bind_some', bind_bind', bind_sum]
theorem Fe_slices_heapSortOrdered_uint64 (x1 : Int) (x2 : Int) (x3 : List Int) : F_slices_heapSortOrdered_uint64 (x1, (x2, ())) (x3, ()) = tree_slices_heapSortOrdered_uint64 L_slices_heapSortOrdered_uint64_4 L_slices_heapSortOrdered_uint64_8 x1 x2 x3 some := rfl
def args_slices_breakPatternsOrdered_uint64 : SkL := (.cons (.const (.slw 0)) (.cons (.leaf (.int .i64)) (.cons (.leaf (.int .i64)) .nil)))
def mem_slices_breakPatternsOrdered_uint64 : MSk := [(0, .row 22 (.cons (.int .u64) .nil))]
def outs_slices_breakPatternsOrdered_uint64 : List OutC := [⟨(.tup .nil), [(0, .row 22 (.cons (.int .u64) .nil))]⟩]
abbrev A_slices_breakPatternsOrdered_uint64 : Type := (Int × Int × Unit)
abbrev M_slices_breakPatternsOrdered_uint64 : Type := (List Int × Unit)
abbrev O_slices_breakPatternsOrdered_uint64 : Type := Unit × (List Int × Unit)
def ltmps_slices_breakPatternsOrdered_uint64_5 : SkL := (.cons (.const (.slw 0)) (.cons (.leaf (.int .i64)) (dz 4 (.cons (.leaf (.int .i64)) (.cons (.const (.ptr 1224 0 0)) (.cons (.leaf (.int .u64)) (.cons (.leaf (.int .i64)) (dz 55 .nil))))))))
def lmem_slices_breakPatternsOrdered_uint64_5 : MSk := [(0, .row 22 (.cons (.int .u64) .nil)), (1224, .cells (.cons (.leaf (.int .u64)) .nil))]
def louts_slices_breakPatternsOrdered_uint64_5 : List OutL := [⟨(.exit 0), (dz 65 .nil), [(0, .row 22 (.cons (.int .u64) .nil))]⟩]
abbrev LT_slices_breakPatternsOrdered_uint64_5 : Type := (Int × Int × Int × Int × Unit)
abbrev LM_slices_breakPatternsOrdered_uint64_5 : Type := (List Int × (Int × Unit) × Unit)
abbrev LO_slices_breakPatternsOrdered_uint64_5 : Type := Unit × (List Int × Unit)
def ltree_slices_breakPatternsOrdered_uint64_5 (F_slices_xorshift_Next : A_slices_xorshift_Next → M_slices_xorshift_Next → Option O_slices_xorshift_Next) {α : Type} (x1 : Int) (x2 : Int) (x3 : Int) (x4 : Int) (x5 : List Int) (x6 : Int) (kn : LT_slices_breakPatternsOrdered_uint64_5 → LM_slices_breakPatternsOrdered_uint64_5 → Option α) (kr : LO_slices_breakPatternsOrdered_uint64_5 → Option α) : Option α :=
  cond (decide   (x4 ≤ IntKind.i64.wrap (IntKind.i64.wrap (x1 + IntKind.i64.wrap (IntKind.i64.wrap (x2.tdiv 4) * 2)) + 1)))
  ((F_slices_xorshift_Next () ((x6, ()), ())).bind fun r1 =>
   cond (decide   (IntKind.i64.wrap       (IntKind.u64.wrap (↑(BitVec.ofInt 64 r1.fst &&& BitVec.ofInt 64 (IntKind.u64.wrap (x3 - 1))).toNat : Int)) ≥     x2))
   (cond (decide   (0 ≤     IntKind.i64.wrap       (x1 +         IntKind.i64.wrap           (IntKind.i64.wrap               (IntKind.u64.wrap                 (↑(BitVec.ofInt 64 r1.fst &&& BitVec.ofInt 64 (IntKind.u64.wrap (x3 - 1))).toNat : Int)) -             x2))))
    (cond (decide   (IntKind.i64.wrap       (x1 +         IntKind.i64.wrap           (IntKind.i64.wrap               (IntKind.u64.wrap                 (↑(BitVec.ofInt 64 r1.fst &&& BitVec.ofInt 64 (IntKind.u64.wrap (x3 - 1))).toNat : Int)) -             x2)) <     (↑x5.length : Int)))
     (cond (decide (0 ≤ x4))
      (cond (decide (x4 < (↑x5.length : Int)))
       (cond (decide (0 ≤ x4))
        (cond (decide (x4 < (↑x5.length : Int)))
         (cond (decide   (0 ≤     IntKind.i64.wrap       (x1 +         IntKind.i64.wrap           (IntKind.i64.wrap               (IntKind.u64.wrap                 (↑(BitVec.ofInt 64 r1.fst &&& BitVec.ofInt 64 (IntKind.u64.wrap (x3 - 1))).toNat : Int)) -             x2))))
          (cond (decide   (IntKind.i64.wrap       (x1 +         IntKind.i64.wrap           (IntKind.i64.wrap               (IntKind.u64.wrap                 (↑(BitVec.ofInt 64 r1.fst &&& BitVec.ofInt 64 (IntKind.u64.wrap (x3 - 1))).toNat : Int)) -             x2)) <     (↑(x5.set (0 + x4.toNat)             (x5.getD               (0 +                 (IntKind.i64.wrap                     (x1 +                       IntKind.i64.wrap                         (IntKind.i64.wrap                             (IntKind.u64.wrap                               (↑(BitVec.ofInt 64 r1.fst &&& BitVec.ofInt 64 (IntKind.u64.wrap (x3 - 1))).toNat :                                 Int)) -                           x2))).toNat)               0)).length :       Int)))
           (kn (x1, (x2, (x3, (IntKind.i64.wrap (x4 + 1), ())))) ((x5.set (0 + x4.toNat)       (x5.getD         (0 +           (IntKind.i64.wrap               (x1 +                 IntKind.i64.wrap                   (IntKind.i64.wrap                       (IntKind.u64.wrap                         (↑(BitVec.ofInt 64 r1.fst &&& BitVec.ofInt 64 (IntKind.u64.wrap (x3 - 1))).toNat : Int)) -                     x2))).toNat)         0)).set   (0 +     (IntKind.i64.wrap         (x1 +           IntKind.i64.wrap             (IntKind.i64.wrap                 (IntKind.u64.wrap                   (↑(BitVec.ofInt 64 r1.fst &&& BitVec.ofInt 64 (IntKind.u64.wrap (x3 - 1))).toNat : Int)) -               x2))).toNat)   (x5.getD (0 + x4.toNat) 0), ((r1.snd.fst.fst, ()), ())))
           (none))
          (none))
         (none))
        (none))
       (none))
      (none))
     (none))
    (none))
   (cond (decide   (0 ≤     IntKind.i64.wrap       (x1 +         IntKind.i64.wrap           (IntKind.u64.wrap             (↑(BitVec.ofInt 64 r1.fst &&& BitVec.ofInt 64 (IntKind.u64.wrap (x3 - 1))).toNat : Int)))))
    (cond (decide   (IntKind.i64.wrap       (x1 +         IntKind.i64.wrap           (IntKind.u64.wrap             (↑(BitVec.ofInt 64 r1.fst &&& BitVec.ofInt 64 (IntKind.u64.wrap (x3 - 1))).toNat : Int))) <     (↑x5.length : Int)))
     (cond (decide (0 ≤ x4))
      (cond (decide (x4 < (↑x5.length : Int)))
       (cond (decide (0 ≤ x4))
        (cond (decide (x4 < (↑x5.length : Int)))
         (cond (decide   (0 ≤     IntKind.i64.wrap       (x1 +         IntKind.i64.wrap           (IntKind.u64.wrap             (↑(BitVec.ofInt 64 r1.fst &&& BitVec.ofInt 64 (IntKind.u64.wrap (x3 - 1))).toNat : Int)))))
          (cond (decide   (IntKind.i64.wrap       (x1 +         IntKind.i64.wrap           (IntKind.u64.wrap             (↑(BitVec.ofInt 64 r1.fst &&& BitVec.ofInt 64 (IntKind.u64.wrap (x3 - 1))).toNat : Int))) <     (↑(x5.set (0 + x4.toNat)             (x5.getD               (0 +                 (IntKind.i64.wrap                     (x1 +                       IntKind.i64.wrap                         (IntKind.u64.wrap                           (↑(BitVec.ofInt 64 r1.fst &&& BitVec.ofInt 64 (IntKind.u64.wrap (x3 - 1))).toNat :                             Int)))).toNat)               0)).length :       Int)))
           (kn (x1, (x2, (x3, (IntKind.i64.wrap (x4 + 1), ())))) ((x5.set (0 + x4.toNat)       (x5.getD         (0 +           (IntKind.i64.wrap               (x1 +                 IntKind.i64.wrap                   (IntKind.u64.wrap                     (↑(BitVec.ofInt 64 r1.fst &&& BitVec.ofInt 64 (IntKind.u64.wrap (x3 - 1))).toNat : Int)))).toNat)         0)).set   (0 +     (IntKind.i64.wrap         (x1 +           IntKind.i64.wrap             (IntKind.u64.wrap               (↑(BitVec.ofInt 64 r1.fst &&& BitVec.ofInt 64 (IntKind.u64.wrap (x3 - 1))).toNat : Int)))).toNat)   (x5.getD (0 + x4.toNat) 0), ((r1.snd.fst.fst, ()), ())))
           (none))
          (none))
         (none))
        (none))
       (none))
      (none))
     (none))
    (none)))
  (kr ((), (x5, ())))
noncomputable def L_slices_breakPatternsOrdered_uint64_5 : LT_slices_breakPatternsOrdered_uint64_5 → LM_slices_breakPatternsOrdered_uint64_5 → Option LO_slices_breakPatternsOrdered_uint64_5 := fun x y => runL (fun p => (fun (a : LT_slices_breakPatternsOrdered_uint64_5) (b : LM_slices_breakPatternsOrdered_uint64_5) => ltree_slices_breakPatternsOrdered_uint64_5 F_slices_xorshift_Next a.1 a.2.1 a.2.2.1 a.2.2.2.1 b.1 b.2.1.1 (fun a' b' => some (.inl (a', b'))) fun r => some (.inr r)) p.1 p.2) (x, y)
theorem nl_slices_breakPatternsOrdered_uint64_5 (F_slices_xorshift_Next : A_slices_xorshift_Next → M_slices_xorshift_Next → Option O_slices_xorshift_Next) (x1 : Int) (x2 : Int) (x3 : Int) (x4 : Int) (x5 : List Int) (x6 : Int) {α : Type} (kn : LT_slices_breakPatternsOrdered_uint64_5 → LM_slices_breakPatternsOrdered_uint64_5 → Option α) (kr : LO_slices_breakPatternsOrdered_uint64_5 → Option α) : ltree_slices_breakPatternsOrdered_uint64_5 F_slices_xorshift_Next x1 x2 x3 x4 x5 x6 kn kr = (ltree_slices_breakPatternsOrdered_uint64_5 F_slices_xorshift_Next x1 x2 x3 x4 x5 x6 (fun a b => some (.inl (a, b))) fun r => some (.inr r)).bind (Sum.elim (fun p : LT_slices_breakPatternsOrdered_uint64_5 × LM_slices_breakPatternsOrdered_uint64_5 => kn p.1 p.2) kr) := by simp only [ltree_slices_breakPatternsOrdered_uint64_5, bind_cond, bind_none', bind_some', bind_bind', bind_sum, Sum.elim_inl, Sum.elim_inr]
theorem Le_slices_breakPatternsOrdered_uint64_5 (x1 : Int) (x2 : Int) (x3 : Int) (x4 : Int) (x5 : List Int) (x6 : Int) : L_slices_breakPatternsOrdered_uint64_5 (x1, (x2, (x3, (x4, ())))) (x5, ((x6, ()), ())) = ltree_slices_breakPatternsOrdered_uint64_5 F_slices_xorshift_Next x1 x2 x3 x4 x5 x6 L_slices_breakPatternsOrdered_uint64_5 some := runL_tree (A := LT_slices_breakPatternsOrdered_uint64_5) (B := LM_slices_breakPatternsOrdered_uint64_5) (R := LO_slices_breakPatternsOrdered_uint64_5) (fun a b kn kr => ltree_slices_breakPatternsOrdered_uint64_5 F_slices_xorshift_Next a.1 a.2.1 a.2.2.1 a.2.2.2.1 b.1 b.2.1.1 kn kr) (fun a b kn kr => nl_slices_breakPatternsOrdered_uint64_5 F_slices_xorshift_Next a.1 a.2.1 a.2.2.1 a.2.2.2.1 b.1 b.2.1.1 kn kr) (x1, (x2, (x3, (x4, ())))) (x5, ((x6, ()), ()))
def tree_slices_breakPatternsOrdered_uint64 (F_slices_nextPowerOfTwo : A_slices_nextPowerOfTwo → M_slices_nextPowerOfTwo → Option O_slices_nextPowerOfTwo) (L_slices_breakPatternsOrdered_uint64_5 : LT_slices_breakPatternsOrdered_uint64_5 → LM_slices_breakPatternsOrdered_uint64_5 → Option LO_slices_breakPatternsOrdered_uint64_5) {α : Type} (x1 : Int) (x2 : Int) (x3 : List Int) (K : O_slices_breakPatternsOrdered_uint64 → Option α) : Option α :=
  cond (decide (IntKind.i64.wrap (x2 - x1) ≥ 8))
  ((F_slices_nextPowerOfTwo (IntKind.i64.wrap (x2 - x1), ()) ()).bind fun r1 =>
   (L_slices_breakPatternsOrdered_uint64_5   (x1, IntKind.i64.wrap (x2 - x1), r1.fst,     IntKind.i64.wrap       (IntKind.i64.wrap           (x1 + IntKind.i64.wrap (IntKind.i64.wrap ((IntKind.i64.wrap (x2 - x1)).tdiv 4) * 2)) -         1),     ())   (x3, (IntKind.u64.wrap (IntKind.i64.wrap (x2 - x1)), ()), ())).bind fun r2 =>
   K ((), (r2.snd.fst, ())))
  (K ((), (x3, ())))
noncomputable def F_slices_breakPatternsOrdered_uint64 : A_slices_breakPatternsOrdered_uint64 → M_slices_breakPatternsOrdered_uint64 → Option O_slices_breakPatternsOrdered_uint64 := fun a b => tree_slices_breakPatternsOrdered_uint64 F_slices_nextPowerOfTwo L_slices_breakPatternsOrdered_uint64_5 a.1 a.2.1 b.1 some
theorem n_slices_breakPatternsOrdered_uint64 (F_slices_nextPowerOfTwo : A_slices_nextPowerOfTwo → M_slices_nextPowerOfTwo → Option O_slices_nextPowerOfTwo) (L_slices_breakPatternsOrdered_uint64_5 : LT_slices_breakPatternsOrdered_uint64_5 → LM_slices_breakPatternsOrdered_uint64_5 → Option LO_slices_breakPatternsOrdered_uint64_5) (x1 : Int) (x2 : Int) (x3 : List Int) {α : Type} (K : O_slices_breakPatternsOrdered_uint64 → Option α) : tree_slices_breakPatternsOrdered_uint64 F_slices_nextPowerOfTwo L_slices_breakPatternsOrdered_uint64_5 x1 x2 x3 K = (tree_slices_breakPatternsOrdered_uint64 F_slices_nextPowerOfTwo L_slices_breakPatternsOrdered_uint64_5 x1 x2 x3 some).bind K := by simp only [tree_slices_breakPatternsOrdered_uint64, bind_cond, bind_none', bind_some', bind_bind', bind_sum]
theorem Fe_slices_breakPatternsOrdered_uint64 (x1 : Int) (x2 : Int) (x3 : List Int) : F_slices_breakPatternsOrdered_uint64 (x1, (x2, ())) (x3, ()) = tree_slices_breakPatternsOrdered_uint64 F_slices_nextPowerOfTwo L_slices_breakPatternsOrdered_uint64_5 x1 x2 x3 some := rfl
def args_slices_partialInsertionSortOrdered_uint64 : SkL := (.cons (.const (.slw 0)) (.cons (.leaf (.int .i64)) (.cons (.leaf (.int .i64)) .nil)))
def mem_slices_partialInsertionSortOrdered_uint64 : MSk := [(0, .row 22 (.cons (.int .u64) .nil))]
def outs_slices_partialInsertionSortOrdered_uint64 : List OutC := [⟨(.leaf .bool), [(0, .row 22 (.cons (.int .u64) .nil))]⟩]
abbrev A_slices_partialInsertionSortOrdered_uint64 : Type := (Int × Int × Unit)
abbrev M_slices_partialInsertionSortOrdered_uint64 : Type := (List Int × Unit)
abbrev O_slices_partialInsertionSortOrdered_uint64 : Type := Bool × (List Int × Unit)
def ltmps_slices_partialInsertionSortOrdered_uint64_5 : SkL := (.cons (.const (.slw 0)) (.cons (.leaf (.int .i64)) (.cons (.leaf (.int .i64)) (dz 4 (.cons (.leaf (.int .i64)) (.cons (.leaf (.int .i64)) (dz 124 .nil)))))))
def lmem_slices_partialInsertionSortOrdered_uint64_5 : MSk := [(0, .row 22 (.cons (.int .u64) .nil))]
def louts_slices_partialInsertionSortOrdered_uint64_5 : List OutL := [⟨(.exit 2), (.cons (.const (.slw 0)) (.cons (.leaf (.int .i64)) (.cons (.leaf (.int .i64)) (dz 4 (.cons (.leaf (.int .i64)) (.cons (.leaf (.int .i64)) (dz 124 .nil))))))), [(0, .row 22 (.cons (.int .u64) .nil))]⟩]
abbrev LT_slices_partialInsertionSortOrdered_uint64_5 : Type := (Int × Int × Int × Int × Unit)
abbrev LM_slices_partialInsertionSortOrdered_uint64_5 : Type := (List Int × Unit)
abbrev LO_slices_partialInsertionSortOrdered_uint64_5 : Type := (Int × Int × Int × Int × Unit) × (List Int × Unit)
def ltree_slices_partialInsertionSortOrdered_uint64_5 (F_cmp_Less_uint64 : A_cmp_Less_uint64 → M_cmp_Less_uint64 → Option O_cmp_Less_uint64) {α : Type} (x1 : Int) (x2 : Int) (x3 : Int) (x4 : Int) (x5 : List Int) (kn : LT_slices_partialInsertionSortOrdered_uint64_5 → LM_slices_partialInsertionSortOrdered_uint64_5 → Option α) (kr : LO_slices_partialInsertionSortOrdered_uint64_5 → Option α) : Option α :=
  cond (decide (x3 < x2))
  (cond (decide (0 ≤ x3))
   (cond (decide (x3 < (↑x5.length : Int)))
    (cond (decide (0 ≤ IntKind.i64.wrap (x3 - 1)))
     (cond (decide (IntKind.i64.wrap (x3 - 1) < (↑x5.length : Int)))
      ((F_cmp_Less_uint64 (x5.getD (0 + x3.toNat) 0, x5.getD (0 + (IntKind.i64.wrap (x3 - 1)).toNat) 0, ())   ()).bind fun r1 =>
       cond (!r1.fst)
       (kn (x1, (x2, (IntKind.i64.wrap (x3 + 1), (x4, ())))) (x5, ()))
       (kr ((x1, (x2, (x3, (x4, ())))), (x5, ()))))
      (none))
     (none))
    (none))
   (none))
  (kr ((x1, (x2, (x3, (x4, ())))), (x5, ())))
noncomputable def L_slices_partialInsertionSortOrdered_uint64_5 : LT_slices_partialInsertionSortOrdered_uint64_5 → LM_slices_partialInsertionSortOrdered_uint64_5 → Option LO_slices_partialInsertionSortOrdered_uint64_5 := fun x y => runL (fun p => (fun (a : LT_slices_partialInsertionSortOrdered_uint64_5) (b : LM_slices_partialInsertionSortOrdered_uint64_5) => ltree_slices_partialInsertionSortOrdered_uint64_5 F_cmp_Less_uint64 a.1 a.2.1 a.2.2.1 a.2.2.2.1 b.1 (fun a' b' => some (.inl (a', b'))) fun r => some (.inr r)) p.1 p.2) (x, y)
theorem nl_slices_partialInsertionSortOrdered_uint64_5 (F_cmp_Less_uint64 : A_cmp_Less_uint64 → M_cmp_Less_uint64 → Option O_cmp_Less_uint64) (x1 : Int) (x2 : Int) (x3 : Int) (x4 : Int) (x5 : List Int) {α : Type} (kn : LT_slices_partialInsertionSortOrdered_uint64_5 → LM_slices_partialInsertionSortOrdered_uint64_5 → Option α) (kr : LO_slices_partialInsertionSortOrdered_uint64_5 → Option α) : ltree_slices_partialInsertionSortOrdered_uint64_5 F_cmp_Less_uint64 x1 x2 x3 x4 x5 kn kr = (ltree_slices_partialInsertionSortOrdered_uint64_5 F_cmp_Less_uint64 x1 x2 x3 x4 x5 (fun a b => some (.inl (a, b))) fun r => some (.inr r)).bind (Sum.elim (fun p : LT_slices_partialInsertionSortOrdered_uint64_5 × LM_slices_partialInsertionSortOrdered_uint64_5 => kn p.1 p.2) kr) := by simp only [ltree_slices_partialInsertionSortOrdered_uint64_5, bind_cond, bind_none', bind_some', bind_bind', bind_sum, Sum.elim_inl, Sum.elim_inr]
theorem Le_slices_partialInsertionSortOrdered_uint64_5 (x1 : Int) (x2 : Int) (x3 : Int) (x4 : Int) (x5 : List Int) : L_slices_partialInsertionSortOrdered_uint64_5 (x1, (x2, (x3, (x4, ())))) (x5, ()) = ltree_slices_partialInsertionSortOrdered_uint64_5 F_cmp_Less_uint64 x1 x2 x3 x4 x5 L_slices_partialInsertionSortOrdered_uint64_5 some := runL_tree (A := LT_slices_partialInsertionSortOrdered_uint64_5) (B := LM_slices_partialInsertionSortOrdered_uint64_5) (R := LO_slices_partialInsertionSortOrdered_uint64_5) (fun a b kn kr => ltree_slices_partialInsertionSortOrdered_uint64_5 F_cmp_Less_uint64 a.1 a.2.1 a.2.2.1 a.2.2.2.1 b.1 kn kr) (fun a b kn kr => nl_slices_partialInsertionSortOrdered_uint64_5 F_cmp_Less_uint64 a.1 a.2.1 a.2.2.1 a.2.2.2.1 b.1 kn kr) (x1, (x2, (x3, (x4, ())))) (x5, ())
def ltmps_slices_partialInsertionSortOrdered_uint64_14 : SkL := (.cons (.const (.slw 0)) (.cons (.leaf (.int .i64)) (.cons (.leaf (.int .i64)) (dz 4 (.cons (.leaf (.int .i64)) (.cons (.leaf (.int .i64)) (.cons (.leaf (.int .i64)) (dz 123 .nil))))))))
def lmem_slices_partialInsertionSortOrdered_uint64_14 : MSk := [(0, .row 22 (.cons (.int .u64) .nil))]
def louts_slices_partialInsertionSortOrdered_uint64_14 : List OutL := [⟨(.exit 4), (.cons (.const (.slw 0)) (.cons (.leaf (.int .i64)) (.cons (.leaf (.int .i64)) (dz 4 (.cons (.leaf (.int .i64)) (.cons (.leaf (.int .i64)) (dz 124 .nil))))))), [(0, .row 22 (.cons (.int .u64) .nil))]⟩]
abbrev LT_slices_partialInsertionSortOrdered_uint64_14 : Type := (Int × Int × Int × Int × Int × Unit)
abbrev LM_slices_partialInsertionSortOrdered_uint64_14 : Type := (List Int × Unit)
abbrev LO_slices_partialInsertionSortOrdered_uint64_14 : Type := (Int × Int × Int × Int × Unit) × (List Int × Unit)
def ltree_slices_partialInsertionSortOrdered_uint64_14 (F_cmp_Less_uint64 : A_cmp_Less_uint64 → M_cmp_Less_uint64 → Option O_cmp_Less_uint64) {α : Type} (x1 : Int) (x2 : Int) (x3 : Int) (x4 : Int) (x5 : Int) (x6 : List Int) (kn : LT_slices_partialInsertionSortOrdered_uint64_14 → LM_slices_partialInsertionSortOrdered_uint64_14 → Option α) (kr : LO_slices_partialInsertionSortOrdered_uint64_14 → Option α) : Option α :=
  cond (decide (x5 ≥ 1))
  (cond (decide (0 ≤ x5))
   (cond (decide (x5 < (↑x6.length : Int)))
    (cond (decide (0 ≤ IntKind.i64.wrap (x5 - 1)))
     (cond (decide (IntKind.i64.wrap (x5 - 1) < (↑x6.length : Int)))
      ((F_cmp_Less_uint64 (x6.getD (0 + x5.toNat) 0, x6.getD (0 + (IntKind.i64.wrap (x5 - 1)).toNat) 0, ())   ()).bind fun r1 =>
       cond (!r1.fst)
       (kr ((x1, (x2, (x3, (x4, ())))), (x6, ())))
       (cond (decide (0 ≤ IntKind.i64.wrap (x5 - 1)))
        (cond (decide (IntKind.i64.wrap (x5 - 1) < (↑x6.length : Int)))
         (cond (decide (0 ≤ x5))
          (cond (decide (x5 < (↑x6.length : Int)))
           (cond (decide (0 ≤ x5))
            (cond (decide (x5 < (↑x6.length : Int)))
             (cond (decide (0 ≤ IntKind.i64.wrap (x5 - 1)))
              (cond (decide   (IntKind.i64.wrap (x5 - 1) <     (↑(x6.set (0 + x5.toNat) (x6.getD (0 + (IntKind.i64.wrap (x5 - 1)).toNat) 0)).length : Int)))
               (kn (x1, (x2, (x3, (x4, (IntKind.i64.wrap (x5 - 1), ()))))) ((x6.set (0 + x5.toNat) (x6.getD (0 + (IntKind.i64.wrap (x5 - 1)).toNat) 0)).set   (0 + (IntKind.i64.wrap (x5 - 1)).toNat) (x6.getD (0 + x5.toNat) 0), ()))
               (none))
              (none))
             (none))
            (none))
           (none))
          (none))
         (none))
        (none)))
      (none))
     (none))
    (none))
   (none))
  (kr ((x1, (x2, (x3, (x4, ())))), (x6, ())))
noncomputable def L_slices_partialInsertionSortOrdered_uint64_14 : LT_slices_partialInsertionSortOrdered_uint64_14 → LM_slices_partialInsertionSortOrdered_uint64_14 → Option LO_slices_partialInsertionSortOrdered_uint64_14 := fun x y => runL (fun p => (fun (a : LT_slices_partialInsertionSortOrdered_uint64_14) (b : LM_slices_partialInsertionSortOrdered_uint64_14) => ltree_slices_partialInsertionSortOrdered_uint64_14 F_cmp_Less_uint64 a.1 a.2.1 a.2.2.1 a.2.2.2.1 a.2.2.2.2.1 b.1 (fun a' b' => some (.inl (a', b'))) fun r => some (.inr r)) p.1 p.2) (x, y)
theorem nl_slices_partialInsertionSortOrdered_uint64_14 (F_cmp_Less_uint64 : A_cmp_Less_uint64 → M_cmp_Less_uint64 → Option O_cmp_Less_uint64) (x1 : Int) (x2 : Int) (x3 : Int) (x4 : Int) (x5 : Int) (x6 : List Int) {α : Type} (kn : LT_slices_partialInsertionSortOrdered_uint64_14 → LM_slices_partialInsertionSortOrdered_uint64_14 → Option α) (kr : LO_slices_partialInsertionSortOrdered_uint64_14 → Option α) : ltree_slices_partialInsertionSortOrdered_uint64_14 F_cmp_Less_uint64 x1 x2 x3 x4 x5 x6 kn kr = (ltree_slices_partialInsertionSortOrdered_uint64_14 F_cmp_Less_uint64 x1 x2 x3 x4 x5 x6 (fun a b => some (.inl (a, b))) fun r => some (.inr r)).bind (Sum.elim (fun p : LT_slices_partialInsertionSortOrdered_uint64_14 × LM_slices_partialInsertionSortOrdered_uint64_14 => kn p.1 p.2) kr) := by simp only [ltree_slices_partialInsertionSortOrdered_uint64_14, bind_cond, bind_none', bind_some', bind_bind', bind_sum, Sum.elim_inl, Sum.elim_inr]
theorem Le_slices_partialInsertionSortOrdered_uint64_14 (x1 : Int) (x2 : Int) (x3 : Int) (x4 : Int) (x5 : Int) (x6 : List Int) : L_slices_partialInsertionSortOrdered_uint64_14 (x1, (x2, (x3, (x4, (x5, ()))))) (x6, ()) = ltree_slices_partialInsertionSortOrdered_uint64_14 F_cmp_Less_uint64 x1 x2 x3 x4 x5 x6 L_slices_partialInsertionSortOrdered_uint64_14 some := runL_tree (A := LT_slices_partialInsertionSortOrdered_uint64_14) (B := LM_slices_partialInsertionSortOrdered_uint64_14) (R := LO_slices_partialInsertionSortOrdered_uint64_14) (fun a b kn kr => ltree_slices_partialInsertionSortOrdered_uint64_14 F_cmp_Less_uint64 a.1 a.2.1 a.2.2.1 a.2.2.2.1 a.2.2.2.2.1 b.1 kn kr) (fun a b kn kr => nl_slices_partialInsertionSortOrdered_uint64_14 F_cmp_Less_uint64 a.1 a.2.1 a.2.2.1 a.2.2.2.1 a.2.2.2.2.1 b.1 kn kr) (x1, (x2, (x3, (x4, (x5, ()))))) (x6, ())
def ltmps_slices_partialInsertionSortOrdered_uint64_20 : SkL := (.cons (.const (.slw 0)) (.cons (.leaf (.int .i64)) (.cons (.leaf (.int .i64)) (dz 4 (.cons (.leaf (.int .i64)) (.cons (.leaf (.int .i64)) (.cons (.const .dead) (.cons (.leaf (.int .i64)) (dz 122 .nil)))))))))
def lmem_slices_partialInsertionSortOrdered_uint64_20 : MSk := [(0, .row 22 (.cons (.int .u64) .nil))]
def louts_slices_partialInsertionSortOrdered_uint64_20 : List OutL := [⟨(.exit 6), (.cons (.const (.slw 0)) (.cons (.leaf (.int .i64)) (.cons (.leaf (.int .i64)) (dz 4 (.cons (.leaf (.int .i64)) (.cons (.leaf (.int .i64)) (dz 124 .nil))))))), [(0, .row 22 (.cons (.int .u64) .nil))]⟩]
abbrev LT_slices_partialInsertionSortOrdered_uint64_20 : Type := (Int × Int × Int × Int × Int × Unit)
abbrev LM_slices_partialInsertionSortOrdered_uint64_20 : Type := (List Int × Unit)
abbrev LO_slices_partialInsertionSortOrdered_uint64_20 : Type := (Int × Int × Int × Int × Unit) × (List Int × Unit)
def ltree_slices_partialInsertionSortOrdered_uint64_20 (F_cmp_Less_uint64 : A_cmp_Less_uint64 → M_cmp_Less_uint64 → Option O_cmp_Less_uint64) {α : Type} (x1 : Int) (x2 : Int) (x3 : Int) (x4 : Int) (x5 : Int) (x6 : List Int) (kn : LT_slices_partialInsertionSortOrdered_uint64_20 → LM_slices_partialInsertionSortOrdered_uint64_20 → Option α) (kr : LO_slices_partialInsertionSortOrdered_uint64_20 → Option α) : Option α :=
  cond (decide (x5 < x2))
  (cond (decide (0 ≤ x5))
   (cond (decide (x5 < (↑x6.length : Int)))
    (cond (decide (0 ≤ IntKind.i64.wrap (x5 - 1)))
     (cond (decide (IntKind.i64.wrap (x5 - 1) < (↑x6.length : Int)))
      ((F_cmp_Less_uint64 (x6.getD (0 + x5.toNat) 0, x6.getD (0 + (IntKind.i64.wrap (x5 - 1)).toNat) 0, ())   ()).bind fun r1 =>
       cond (!r1.fst)
       (kr ((x1, (x2, (x3, (x4, ())))), (x6, ())))
       (cond (decide (0 ≤ IntKind.i64.wrap (x5 - 1)))
        (cond (decide (IntKind.i64.wrap (x5 - 1) < (↑x6.length : Int)))
         (cond (decide (0 ≤ x5))
          (cond (decide (x5 < (↑x6.length : Int)))
           (cond (decide (0 ≤ x5))
            (cond (decide (x5 < (↑x6.length : Int)))
             (cond (decide (0 ≤ IntKind.i64.wrap (x5 - 1)))
              (cond (decide   (IntKind.i64.wrap (x5 - 1) <     (↑(x6.set (0 + x5.toNat) (x6.getD (0 + (IntKind.i64.wrap (x5 - 1)).toNat) 0)).length : Int)))
               (kn (x1, (x2, (x3, (x4, (IntKind.i64.wrap (x5 + 1), ()))))) ((x6.set (0 + x5.toNat) (x6.getD (0 + (IntKind.i64.wrap (x5 - 1)).toNat) 0)).set   (0 + (IntKind.i64.wrap (x5 - 1)).toNat) (x6.getD (0 + x5.toNat) 0), ()))
               (none))
              (none))
             (none))
            (none))
           (none))
          (none))
         (none))
        (none)))
      (none))
     (none))
    (none))
   (none))
  (kr ((x1, (x2, (x3, (x4, ())))), (x6, ())))
noncomputable def L_slices_partialInsertionSortOrdered_uint64_20 : LT_slices_partialInsertionSortOrdered_uint64_20 → LM_slices_partialInsertionSortOrdered_uint64_20 → Option LO_slices_partialInsertionSortOrdered_uint64_20 := fun x y => runL (fun p => (fun (a : LT_slices_partialInsertionSortOrdered_uint64_20) (b : LM_slices_partialInsertionSortOrdered_uint64_20) => ltree_slices_partialInsertionSortOrdered_uint64_20 F_cmp_Less_uint64 a.1 a.2.1 a.2.2.1 a.2.2.2.1 a.2.2.2.2.1 b.1 (fun a' b' => some (.inl (a', b'))) fun r => some (.inr r)) p.1 p.2) (x, y)
theorem nl_slices_partialInsertionSortOrdered_uint64_20 (F_cmp_Less_uint64 : A_cmp_Less_uint64 → M_cmp_Less_uint64 → Option O_cmp_Less_uint64) (x1 : Int) (x2 : Int) (x3 : Int) (x4 : Int) (x5 : Int) (x6 : List Int) {α : Type} (kn : LT_slices_partialInsertionSortOrdered_uint64_20 → LM_slices_partialInsertionSortOrdered_uint64_20 → Option α) (kr : LO_slices_partialInsertionSortOrdered_uint64_20 → Option α) : ltree_slices_partialInsertionSortOrdered_uint64_20 F_cmp_Less_uint64 x1 x2 x3 x4 x5 x6 kn kr = (ltree_slices_partialInsertionSortOrdered_uint64_20 F_cmp_Less_uint64 x1 x2 x3 x4 x5 x6 (fun a b => some (.inl (a, b))) fun r => some (.inr r)).bind (Sum.elim (fun p : LT_slices_partialInsertionSortOrdered_uint64_20 × LM_slices_partialInsertionSortOrdered_uint64_20 => kn p.1 p.2) kr) := by simp only [ltree_slices_partialInsertionSortOrdered_uint64_20, bind_cond, bind_none', bind_some', bind_bind', bind_sum, Sum.elim_inl, Sum.elim_inr]
theorem Le_slices_partialInsertionSortOrdered_uint64_20 (x1 : Int) (x2 : Int) (x3 : Int) (x4 : Int) (x5 : Int) (x6 : List Int) : L_slices_partialInsertionSortOrdered_uint64_20 (x1, (x2, (x3, (x4, (x5, ()))))) (x6, ()) = ltree_slices_partialInsertionSortOrdered_uint64_20 F_cmp_Less_uint64 x1 x2 x3 x4 x5 x6 L_slices_partialInsertionSortOrdered_uint64_20 some := runL_tree (A := LT_slices_partialInsertionSortOrdered_uint64_20) (B := LM_slices_partialInsertionSortOrdered_uint64_20) (R := LO_slices_partialInsertionSortOrdered_uint64_20) (fun a b kn kr => ltree_slices_partialInsertionSortOrdered_uint64_20 F_cmp_Less_uint64 a.1 a.2.1 a.2.2.1 a.2.2.2.1 a.2.2.2.2.1 b.1 kn kr) (fun a b kn kr => nl_slices_partialInsertionSortOrdered_uint64_20 F_cmp_Less_uint64 a.1 a.2.1 a.2.2.1 a.2.2.2.1 a.2.2.2.2.1 b.1 kn kr) (x1, (x2, (x3, (x4, (x5, ()))))) (x6, ())
def ltmps_slices_partialInsertionSortOrdered_uint64_3 : SkL := (.cons (.const (.slw 0)) (.cons (.leaf (.int .i64)) (.cons (.leaf (.int .i64)) (dz 4 (.cons (.leaf (.int .i64)) (.cons (.leaf (.int .i64)) (dz 124 .nil)))))))
def lmem_slices_partialInsertionSortOrdered_uint64_3 : MSk := [(0, .row 22 (.cons (.int .u64) .nil))]
def louts_slices_partialInsertionSortOrdered_uint64_3 : List OutL := [⟨.ret, (dz 6 (.cons (.leaf .bool) (dz 126 .nil))), [(0, .row 22 (.cons (.int .u64) .nil))]⟩, ⟨(.exit 0), (dz 133 .nil), [(0, .row 22 (.cons (.int .u64) .nil))]⟩]
abbrev LT_slices_partialInsertionSortOrdered_uint64_3 : Type := (Int × Int × Int × Int × Unit)
abbrev LM_slices_partialInsertionSortOrdered_uint64_3 : Type := (List Int × Unit)
abbrev LO_slices_partialInsertionSortOrdered_uint64_3 : Type := ((Bool × Unit) × (List Int × Unit)) ⊕ (Unit × (List Int × Unit))
def ltree_slices_partialInsertionSortOrdered_uint64_3 (L_slices_partialInsertionSortOrdered_uint64_5 : LT_slices_partialInsertionSortOrdered_uint64_5 → LM_slices_partialInsertionSortOrdered_uint64_5 → Option LO_slices_partialInsertionSortOrdered_uint64_5) (L_slices_partialInsertionSortOrdered_uint64_14 : LT_slices_partialInsertionSortOrdered_uint64_14 → LM_slices_partialInsertionSortOrdered_uint64_14 → Option LO_slices_partialInsertionSortOrdered_uint64_14) (L_slices_partialInsertionSortOrdered_uint64_20 : LT_slices_partialInsertionSortOrdered_uint64_20 → LM_slices_partialInsertionSortOrdered_uint64_20 → Option LO_slices_partialInsertionSortOrdered_uint64_20) {α : Type} (x1 : Int) (x2 : Int) (x3 : Int) (x4 : Int) (x5 : List Int) (kn : LT_slices_partialInsertionSortOrdered_uint64_3 → LM_slices_partialInsertionSortOrdered_uint64_3 → Option α) (kr : LO_slices_partialInsertionSortOrdered_uint64_3 → Option α) : Option α :=
  cond (decide (x4 < 5))
  ((L_slices_partialInsertionSortOrdered_uint64_5 (x1, x2, x3, x4, ()) (x5, ())).bind fun r1 =>
   cond (r1.fst.snd.snd.fst == r1.fst.snd.fst)
   (kr (.inl ((true, ()), (r1.snd.fst, ()))))
   (cond (decide (IntKind.i64.wrap (r1.fst.snd.fst - r1.fst.fst) < 50))
    (kr (.inl ((false, ()), (r1.snd.fst, ()))))
    (cond (decide (0 ≤ IntKind.i64.wrap (r1.fst.snd.snd.fst - 1)))
     (cond (decide (IntKind.i64.wrap (r1.fst.snd.snd.fst - 1) < (↑r1.snd.fst.length : Int)))
      (cond (decide (0 ≤ r1.fst.snd.snd.fst))
       (cond (decide (r1.fst.snd.snd.fst < (↑r1.snd.fst.length : Int)))
        (cond (decide (0 ≤ r1.fst.snd.snd.fst))
         (cond (decide (r1.fst.snd.snd.fst < (↑r1.snd.fst.length : Int)))
          (cond (decide (0 ≤ IntKind.i64.wrap (r1.fst.snd.snd.fst - 1)))
           (cond (decide   (IntKind.i64.wrap (r1.fst.snd.snd.fst - 1) <     (↑(r1.snd.fst.set (0 + r1.fst.snd.snd.fst.toNat)             (r1.snd.fst.getD (0 + (IntKind.i64.wrap (r1.fst.snd.snd.fst - 1)).toNat) 0)).length :       Int)))
            (cond (decide (IntKind.i64.wrap (r1.fst.snd.snd.fst - r1.fst.fst) ≥ 2))
             ((L_slices_partialInsertionSortOrdered_uint64_14   (r1.fst.fst, r1.fst.snd.fst, r1.fst.snd.snd.fst, r1.fst.snd.snd.snd.fst, IntKind.i64.wrap (r1.fst.snd.snd.fst - 1),     ())   ((r1.snd.fst.set (0 + r1.fst.snd.snd.fst.toNat)           (r1.snd.fst.getD (0 + (IntKind.i64.wrap (r1.fst.snd.snd.fst - 1)).toNat) 0)).set       (0 + (IntKind.i64.wrap (r1.fst.snd.snd.fst - 1)).toNat) (r1.snd.fst.getD (0 + r1.fst.snd.snd.fst.toNat) 0),     ())).bind fun r2 =>
              cond (decide (IntKind.i64.wrap (r2.fst.snd.fst - r2.fst.snd.snd.fst) ≥ 2))
              ((L_slices_partialInsertionSortOrdered_uint64_20   (r2.fst.fst, r2.fst.snd.fst, r2.fst.snd.snd.fst, r2.fst.snd.snd.snd.fst, IntKind.i64.wrap (r2.fst.snd.snd.fst + 1),     ())   (r2.snd.fst, ())).bind fun r3 =>
               kn (r3.fst.fst, (r3.fst.snd.fst, (r3.fst.snd.snd.fst, (IntKind.i64.wrap (r3.fst.snd.snd.snd.fst + 1), ())))) (r3.snd.fst, ()))
              (kn (r2.fst.fst, (r2.fst.snd.fst, (r2.fst.snd.snd.fst, (IntKind.i64.wrap (r2.fst.snd.snd.snd.fst + 1), ())))) (r2.snd.fst, ())))
             (cond (decide (IntKind.i64.wrap (r1.fst.snd.fst - r1.fst.snd.snd.fst) ≥ 2))
              ((L_slices_partialInsertionSortOrdered_uint64_20   (r1.fst.fst, r1.fst.snd.fst, r1.fst.snd.snd.fst, r1.fst.snd.snd.snd.fst, IntKind.i64.wrap (r1.fst.snd.snd.fst + 1),     ())   ((r1.snd.fst.set (0 + r1.fst.snd.snd.fst.toNat)           (r1.snd.fst.getD (0 + (IntKind.i64.wrap (r1.fst.snd.snd.fst - 1)).toNat) 0)).set       (0 + (IntKind.i64.wrap (r1.fst.snd.snd.fst - 1)).toNat) (r1.snd.fst.getD (0 + r1.fst.snd.snd.fst.toNat) 0),     ())).bind fun r4 =>
               kn (r4.fst.fst, (r4.fst.snd.fst, (r4.fst.snd.snd.fst, (IntKind.i64.wrap (r4.fst.snd.snd.snd.fst + 1), ())))) (r4.snd.fst, ()))
              (kn (r1.fst.fst, (r1.fst.snd.fst, (r1.fst.snd.snd.fst, (IntKind.i64.wrap (r1.fst.snd.snd.snd.fst + 1), ())))) ((r1.snd.fst.set (0 + r1.fst.snd.snd.fst.toNat)       (r1.snd.fst.getD (0 + (IntKind.i64.wrap (r1.fst.snd.snd.fst - 1)).toNat) 0)).set   (0 + (IntKind.i64.wrap (r1.fst.snd.snd.fst - 1)).toNat) (r1.snd.fst.getD (0 + r1.fst.snd.snd.fst.toNat) 0), ()))))
            (none))
           (none))
          (none))
         (none))
        (none))
       (none))
      (none))
     (none))))
  (kr (.inr ((), (x5, ()))))
noncomputable def L_slices_partialInsertionSortOrdered_uint64_3 : LT_slices_partialInsertionSortOrdered_uint64_3 → LM_slices_partialInsertionSortOrdered_uint64_3 → Option LO_slices_partialInsertionSortOrdered_uint64_3 := fun x y => runL (fun p => (fun (a : LT_slices_partialInsertionSortOrdered_uint64_3) (b : LM_slices_partialInsertionSortOrdered_uint64_3) => ltree_slices_partialInsertionSortOrdered_uint64_3 L_slices_partialInsertionSortOrdered_uint64_5 L_slices_partialInsertionSortOrdered_uint64_14 L_slices_partialInsertionSortOrdered_uint64_20 a.1 a.2.1 a.2.2.1 a.2.2.2.1 b.1 (fun a' b' => some (.inl (a', b'))) fun r => some (.inr r)) p.1 p.2) (x, y)
theorem nl_slices_partialInsertionSortOrdered_uint64_3 (L_slices_partialInsertionSortOrdered_uint64_5 : LT_slices_partialInsertionSortOrdered_uint64_5 → LM_slices_partialInsertionSortOrdered_uint64_5 → Option LO_slices_partialInsertionSortOrdered_uint64_5) (L_slices_partialInsertionSortOrdered_uint64_14 : LT_slices_partialInsertionSortOrdered_uint64_14 → LM_slices_partialInsertionSortOrdered_uint64_14 → Option LO_slices_partialInsertionSortOrdered_uint64_14) (L_slices_partialInsertionSortOrdered_uint64_20 : LT_slices_partialInsertionSortOrdered_uint64_20 → LM_slices_partialInsertionSortOrdered_uint64_20 → Option LO_slices_partialInsertionSortOrdered_uint64_20) (x1 : Int) (x2 : Int) (x3 : Int) (x4 : Int) (x5 : List Int) {α : Type} (kn : LT_slices_partialInsertionSortOrdered_uint64_3 → LM_slices_partialInsertionSortOrdered_uint64_3 → Option α) (kr : LO_slices_partialInsertionSortOrdered_uint64_3 → Option α) : ltree_slices_partialInsertionSortOrdered_uint64_3 L_slices_partialInsertionSortOrdered_uint64_5 L_slices_partialInsertionSortOrdered_uint64_14 L_slices_partialInsertionSortOrdered_uint64_20 x1 x2 x3 x4 x5 kn kr = (ltree_slices_partialInsertionSortOrdered_uint64_3 L_slices_partialInsertionSortOrdered_uint64_5 L_slices_partialInsertionSortOrdered_uint64_14 L_slices_partialInsertionSortOrdered_uint64_20 x1 x2 x3 x4 x5 (fun a b => some (.inl (a, b))) fun r => some (.inr r)).bind (Sum.elim (fun p : LT_slices_partialInsertionSortOrdered_uint64_3 × LM_slices_partialInsertionSortOrdered_uint64_3 => kn p.1 p.2) kr) := by simp only [ltree_slices_partialInsertionSortOrdered_uint64_3, bind_cond, bind_none', bind_some', bind_bind', bind_sum, Sum.elim_inl, Sum.elim_inr]
theorem Le_slices_partialInsertionSortOrdered_uint64_3 (x1 : Int) (x2 : Int) (x3 : Int) (x4 : Int) (x5 : List Int) : L_slices_partialInsertionSortOrdered_uint64_3 (x1, (x2, (x3, (x4, ())))) (x5, ()) = ltree_slices_partialInsertionSortOrdered_uint64_3 L_slices_partialInsertionSortOrdered_uint64_5 L_slices_partialInsertionSortOrdered_uint64_14 L_slices_partialInsertionSortOrdered_uint64_20 x1 x2 x3 x4 x5 L_slices_partialInsertionSortOrdered_uint64_3 some := runL_tree (A := LT_slices_partialInsertionSortOrdered_uint64_3) (B := LM_slices_partialInsertionSortOrdered_uint64_3) (R := LO_slices_partialInsertionSortOrdered_uint64_3) (fun a b kn kr => ltree_slices_partialInsertionSortOrdered_uint64_3 L_slices_partialInsertionSortOrdered_uint64_5 L_slices_partialInsertionSortOrdered_uint64_14 L_slices_partialInsertionSortOrdered_uint64_20 a.1 a.2.1 a.2.2.1 a.2.2.2.1 b.1 kn kr) (fun a b kn kr => nl_slices_partialInsertionSortOrdered_uint64_3 L_slices_partialInsertionSortOrdered_uint64_5 L_slices_partialInsertionSortOrdered_uint64_14 L_slices_partialInsertionSortOrdered_uint64_20 a.1 a.2.1 a.2.2.1 a.2.2.2.1 b.1 kn kr) (x1, (x2, (x3, (x4, ())))) (x5, ())
def tree_slices_partialInsertionSortOrdered_uint64 (L_slices_partialInsertionSortOrdered_uint64_3 : LT_slices_partialInsertionSortOrdered_uint64_3 → LM_slices_partialInsertionSortOrdered_uint64_3 → Option LO_slices_partialInsertionSortOrdered_uint64_3) {α : Type} (x1 : Int) (x2 : Int) (x3 : List Int) (K : O_slices_partialInsertionSortOrdered_uint64 → Option α) : Option α :=
  (L_slices_partialInsertionSortOrdered_uint64_3 (x1, x2, IntKind.i64.wrap (x1 + 1), 0, ()) (x3, ())).bind fun r1 =>
  Sum.elim (fun u2 =>
   K (u2.fst.fst, (u2.snd.fst, ())))
  (fun u2 =>
   K (false, (u2.snd.fst, ()))) (r1)
noncomputable def F_slices_partialInsertionSortOrdered_uint64 : A_slices_partialInsertionSortOrdered_uint64 → M_slices_partialInsertionSortOrdered_uint64 → Option O_slices_partialInsertionSortOrdered_uint64 := fun a b => tree_slices_partialInsertionSortOrdered_uint64 L_slices_partialInsertionSortOrdered_uint64_3 a.1 a.2.1 b.1 some
theorem n_slices_partialInsertionSortOrdered_uint64 (L_slices_partialInsertionSortOrdered_uint64_3 : LT_slices_partialInsertionSortOrdered_uint64_3 → LM_slices_partialInsertionSortOrdered_uint64_3 → Option LO_slices_partialInsertionSortOrdered_uint64_3) (x1 : Int) (x2 : Int) (x3 : List Int) {α : Type} (K : O_slices_partialInsertionSortOrdered_uint64 → Option α) : tree_slices_partialInsertionSortOrdered_uint64 L_slices_partialInsertionSortOrdered_uint64_3 x1 x2 x3 K = (tree_slices_partialInsertionSortOrdered_uint64 L_slices_partialInsertionSortOrdered_uint64_3 x1 x2 x3 some).bind K := by simp only [tree_slices_partialInsertionSortOrdered_uint64, bind_cond, bind_none', bind_some', bind_bind', bind_sum]
theorem Fe_slices_partialInsertionSortOrdered_uint64 (x1 : Int) (x2 : Int) (x3 : List Int) : F_slices_partialInsertionSortOrdered_uint64 (x1, (x2, ())) (x3, ()) = tree_slices_partialInsertionSortOrdered_uint64 L_slices_partialInsertionSortOrdered_uint64_3 x1 x2 x3 some := rfl
end Go.Proofs.Ytgakbdikappdbaa.S2
