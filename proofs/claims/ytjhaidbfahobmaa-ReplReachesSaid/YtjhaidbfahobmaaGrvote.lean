/- Plain forms of the program's functions, by program. -/
import Derived.Test.YtjhaidbfahobmaaGrref
set_option maxRecDepth 100000
set_option maxHeartbeats 0
set_option linter.unusedVariables false
set_option linter.unusedSimpArgs false
namespace Go.Proofs.Ytjhaidbfahobmaa.S2
open Go
/-! countersign/countersignref01.Nums -/
def args_ref01_Nums : SkL := (.cons (.leaf (.slc 22 (.cons (.int .u64) .nil))) (.cons (.leaf (.slc 22 (.cons (.int .u64) .nil))) .nil))
def mem_ref01_Nums : MSk := []
def outs_ref01_Nums : List OutC := [⟨(.leaf .bool), []⟩]
abbrev A_ref01_Nums : Type := (List Int × List Int × Unit)
abbrev M_ref01_Nums : Type := Unit
abbrev O_ref01_Nums : Type := Bool × Unit
def ltmps_ref01_Nums_4 : SkL := (.cons (.leaf (.slc 22 (.cons (.int .u64) .nil))) (.cons (.leaf (.slc 22 (.cons (.int .u64) .nil))) (dz 3 (.cons (.leaf (.int .i64)) (dz 20 .nil)))))
def lmem_ref01_Nums_4 : MSk := []
def louts_ref01_Nums_4 : List OutL := [⟨.ret, (dz 4 (.cons (.leaf .bool) (dz 21 .nil))), []⟩, ⟨(.exit 0), (dz 26 .nil), []⟩]
abbrev LT_ref01_Nums_4 : Type := (List Int × List Int × Int × Unit)
abbrev LM_ref01_Nums_4 : Type := Unit
abbrev LO_ref01_Nums_4 : Type := ((Bool × Unit) × Unit) ⊕ (Unit × Unit)
def ltree_ref01_Nums_4 {α : Type} (x1 : List Int) (x2 : List Int) (x3 : Int) (kn : LT_ref01_Nums_4 → LM_ref01_Nums_4 → Option α) (kr : LO_ref01_Nums_4 → Option α) : Option α :=
 cond (decide (x3 < (↑x1.length : Int)))
 (cond (decide (0 ≤ x3))
 (cond (decide (x3 < (↑x1.length : Int)))
 (cond (decide (0 ≤ x3))
 (cond (decide (x3 < (↑x2.length : Int)))
 (cond (x1.getD x3.toNat 0 != x2.getD x3.toNat 0)
 (kr (.inl ((false, ()), ())))
 (kn (x1, (x2, (IntKind.i64.wrap (x3 + 1), ()))) ()))
 (none))
 (none))
 (none))
 (none))
 (kr (.inr ((), ())))
noncomputable def L_ref01_Nums_4 : LT_ref01_Nums_4 → LM_ref01_Nums_4 → Option LO_ref01_Nums_4 := fun x y => runL (fun p => (fun (a : LT_ref01_Nums_4) (b : LM_ref01_Nums_4) => ltree_ref01_Nums_4 a.1 a.2.1 a.2.2.1 (fun a' b' => some (.inl (a', b'))) fun r => some (.inr r)) p.1 p.2) (x, y)
theorem nl_ref01_Nums_4 (x1 : List Int) (x2 : List Int) (x3 : Int) {α : Type} (kn : LT_ref01_Nums_4 → LM_ref01_Nums_4 → Option α) (kr : LO_ref01_Nums_4 → Option α) : ltree_ref01_Nums_4 x1 x2 x3 kn kr = (ltree_ref01_Nums_4 x1 x2 x3 (fun a b => some (.inl (a, b))) fun r => some (.inr r)).bind (Sum.elim (fun p : LT_ref01_Nums_4 × LM_ref01_Nums_4 => kn p.1 p.2) kr) := by simp only [ltree_ref01_Nums_4, bind_cond, bind_none', bind_some', bind_bind', bind_sum, Sum.elim_inl, Sum.elim_inr]
theorem Le_ref01_Nums_4 (x1 : List Int) (x2 : List Int) (x3 : Int) : L_ref01_Nums_4 (x1, (x2, (x3, ()))) () = ltree_ref01_Nums_4 x1 x2 x3 L_ref01_Nums_4 some := runL_tree (A := LT_ref01_Nums_4) (B := LM_ref01_Nums_4) (R := LO_ref01_Nums_4) (fun a b kn kr => ltree_ref01_Nums_4 a.1 a.2.1 a.2.2.1 kn kr) (fun a b kn kr => nl_ref01_Nums_4 a.1 a.2.1 a.2.2.1 kn kr) (x1, (x2, (x3, ()))) ()
def tree_ref01_Nums (L_ref01_Nums_4 : LT_ref01_Nums_4 → LM_ref01_Nums_4 → Option LO_ref01_Nums_4) {α : Type} (x1 : List Int) (x2 : List Int) (K : O_ref01_Nums → Option α) : Option α :=
 cond ((↑x1.length : Int) != (↑x2.length : Int))
 (K (false, ()))
 ((L_ref01_Nums_4 (x1, x2, 0, ()) ()).bind fun r1 =>
 Sum.elim (fun u2 =>
 K (u2.fst.fst, ()))
 (fun u2 =>
 K (true, ())) (r1))
noncomputable def F_ref01_Nums : A_ref01_Nums → M_ref01_Nums → Option O_ref01_Nums := fun a b => tree_ref01_Nums L_ref01_Nums_4 a.1 a.2.1 some
theorem n_ref01_Nums (L_ref01_Nums_4 : LT_ref01_Nums_4 → LM_ref01_Nums_4 → Option LO_ref01_Nums_4) (x1 : List Int) (x2 : List Int) {α : Type} (K : O_ref01_Nums → Option α) : tree_ref01_Nums L_ref01_Nums_4 x1 x2 K = (tree_ref01_Nums L_ref01_Nums_4 x1 x2 some).bind K := by simp only [tree_ref01_Nums, bind_cond, bind_none', bind_some', bind_bind', bind_sum]
theorem Fe_ref01_Nums (x1 : List Int) (x2 : List Int) : F_ref01_Nums (x1, (x2, ())) () = tree_ref01_Nums L_ref01_Nums_4 x1 x2 some := rfl

/-! countersign/countersignref16.Once -/
def args_ref16_Once : SkL := (.cons (.leaf (.slc 22 (.cons (.int .u64) .nil))) .nil)
def mem_ref16_Once : MSk := []
def outs_ref16_Once : List OutC := [⟨(.leaf (.slc 22 (.cons (.int .u64) .nil))), []⟩]
abbrev A_ref16_Once : Type := (List Int × Unit)
abbrev M_ref16_Once : Type := Unit
abbrev O_ref16_Once : Type := List Int × Unit
def ltmps_ref16_Once_5 : SkL := (.cons (.leaf (.slc 22 (.cons (.int .u64) .nil))) (dz 2 (.cons (.const (.slw 503)) (.cons (.leaf .bool) (.cons (.leaf (.int .u64)) (.cons (.leaf (.int .i64)) (dz 46 .nil)))))))
def lmem_ref16_Once_5 : MSk := [(503, .row 22 (.cons (.int .u64) .nil))]
def louts_ref16_Once_5 : List OutL := [⟨(.exit 2), (.cons (.leaf (.slc 22 (.cons (.int .u64) .nil))) (dz 2 (.cons (.const (.slw 503)) (.cons (.leaf .bool) (.cons (.leaf (.int .u64)) (dz 47 .nil)))))), [(503, .row 22 (.cons (.int .u64) .nil))]⟩]
abbrev LT_ref16_Once_5 : Type := (List Int × Bool × Int × Int × Unit)
abbrev LM_ref16_Once_5 : Type := (List Int × Unit)
abbrev LO_ref16_Once_5 : Type := (List Int × Bool × Int × Unit) × (List Int × Unit)
def ltree_ref16_Once_5 {α : Type} (x1 : List Int) (x2 : Bool) (x3 : Int) (x4 : Int) (x5 : List Int) (kn : LT_ref16_Once_5 → LM_ref16_Once_5 → Option α) (kr : LO_ref16_Once_5 → Option α) : Option α :=
 cond (decide (x4 < (↑x1.length : Int)))
 (cond ((↑x5.length : Int) == 0)
 (cond (!x2)
 (cond (decide (0 ≤ x4))
 (cond (decide (x4 < (↑x1.length : Int)))
 (kn (x1, (true, (x1.getD x4.toNat 0, (IntKind.i64.wrap (x4 + 1), ())))) (x5, ()))
 (none))
 (none))
 (cond (decide (0 ≤ x4))
 (cond (decide (x4 < (↑x1.length : Int)))
 (cond (decide (x1.getD x4.toNat 0 < x3))
 (cond (decide (0 ≤ x4))
 (cond (decide (x4 < (↑x1.length : Int)))
 (kn (x1, (true, (x1.getD x4.toNat 0, (IntKind.i64.wrap (x4 + 1), ())))) (x5, ()))
 (none))
 (none))
 (kn (x1, (x2, (x3, (IntKind.i64.wrap (x4 + 1), ())))) (x5, ())))
 (none))
 (none)))
 (cond (decide (0 ≤ x4))
 (cond (decide (x4 < (↑x1.length : Int)))
 (cond (decide (0 ≤ IntKind.i64.wrap ((↑x5.length : Int) - 1)))
 (cond (decide (IntKind.i64.wrap ((↑x5.length : Int) - 1) < (↑x5.length : Int)))
 (cond (decide (x1.getD x4.toNat 0 > x5.getD (0 + (IntKind.i64.wrap ((↑x5.length : Int) - 1)).toNat) 0))
 (cond (!x2)
 (cond (decide (0 ≤ x4))
 (cond (decide (x4 < (↑x1.length : Int)))
 (kn (x1, (true, (x1.getD x4.toNat 0, (IntKind.i64.wrap (x4 + 1), ())))) (x5, ()))
 (none))
 (none))
 (cond (decide (0 ≤ x4))
 (cond (decide (x4 < (↑x1.length : Int)))
 (cond (decide (x1.getD x4.toNat 0 < x3))
 (cond (decide (0 ≤ x4))
 (cond (decide (x4 < (↑x1.length : Int)))
 (kn (x1, (true, (x1.getD x4.toNat 0, (IntKind.i64.wrap (x4 + 1), ())))) (x5, ()))
 (none))
 (none))
 (kn (x1, (x2, (x3, (IntKind.i64.wrap (x4 + 1), ())))) (x5, ())))
 (none))
 (none)))
 (kn (x1, (x2, (x3, (IntKind.i64.wrap (x4 + 1), ())))) (x5, ())))
 (none))
 (none))
 (none))
 (none)))
 (kr ((x1, (x2, (x3, ()))), (x5, ())))
noncomputable def L_ref16_Once_5 : LT_ref16_Once_5 → LM_ref16_Once_5 → Option LO_ref16_Once_5 := fun x y => runL (fun p => (fun (a : LT_ref16_Once_5) (b : LM_ref16_Once_5) => ltree_ref16_Once_5 a.1 a.2.1 a.2.2.1 a.2.2.2.1 b.1 (fun a' b' => some (.inl (a', b'))) fun r => some (.inr r)) p.1 p.2) (x, y)
theorem nl_ref16_Once_5 (x1 : List Int) (x2 : Bool) (x3 : Int) (x4 : Int) (x5 : List Int) {α : Type} (kn : LT_ref16_Once_5 → LM_ref16_Once_5 → Option α) (kr : LO_ref16_Once_5 → Option α) : ltree_ref16_Once_5 x1 x2 x3 x4 x5 kn kr = (ltree_ref16_Once_5 x1 x2 x3 x4 x5 (fun a b => some (.inl (a, b))) fun r => some (.inr r)).bind (Sum.elim (fun p : LT_ref16_Once_5 × LM_ref16_Once_5 => kn p.1 p.2) kr) := by simp only [ltree_ref16_Once_5, bind_cond, bind_none', bind_some', bind_bind', bind_sum, Sum.elim_inl, Sum.elim_inr]
theorem Le_ref16_Once_5 (x1 : List Int) (x2 : Bool) (x3 : Int) (x4 : Int) (x5 : List Int) : L_ref16_Once_5 (x1, (x2, (x3, (x4, ())))) (x5, ()) = ltree_ref16_Once_5 x1 x2 x3 x4 x5 L_ref16_Once_5 some := runL_tree (A := LT_ref16_Once_5) (B := LM_ref16_Once_5) (R := LO_ref16_Once_5) (fun a b kn kr => ltree_ref16_Once_5 a.1 a.2.1 a.2.2.1 a.2.2.2.1 b.1 kn kr) (fun a b kn kr => nl_ref16_Once_5 a.1 a.2.1 a.2.2.1 a.2.2.2.1 b.1 kn kr) (x1, (x2, (x3, (x4, ())))) (x5, ())
def ltmps_ref16_Once_2 : SkL := (.cons (.leaf (.slc 22 (.cons (.int .u64) .nil))) (dz 2 (.cons (.const (.slw 503)) (dz 49 .nil))))
def lmem_ref16_Once_2 : MSk := [(503, .row 22 (.cons (.int .u64) .nil))]
def louts_ref16_Once_2 : List OutL := [⟨.ret, (dz 2 (.cons (.const (.slw 503)) (dz 50 .nil))), [(503, .row 22 (.cons (.int .u64) .nil))]⟩]
abbrev LT_ref16_Once_2 : Type := (List Int × Unit)
abbrev LM_ref16_Once_2 : Type := (List Int × Unit)
abbrev LO_ref16_Once_2 : Type := Unit × (List Int × Unit)
def ltree_ref16_Once_2 (L_ref16_Once_5 : LT_ref16_Once_5 → LM_ref16_Once_5 → Option LO_ref16_Once_5) {α : Type} (x1 : List Int) (x2 : List Int) (kn : LT_ref16_Once_2 → LM_ref16_Once_2 → Option α) (kr : LO_ref16_Once_2 → Option α) : Option α :=
 (L_ref16_Once_5 (x1, Bool.false, 0, 0, ()) (x2, ())).bind fun r1 =>
 cond (!r1.fst.snd.fst)
 (kr ((), (r1.snd.fst, ())))
 (cond (decide ((r1.snd.fst.length + 1) * 8 ≤ 140737488355328))
 (kn (r1.fst.fst, ()) (r1.snd.fst ++ ([] ++ [r1.fst.snd.snd.fst]), ()))
 (none))
noncomputable def L_ref16_Once_2 : LT_ref16_Once_2 → LM_ref16_Once_2 → Option LO_ref16_Once_2 := fun x y => runL (fun p => (fun (a : LT_ref16_Once_2) (b : LM_ref16_Once_2) => ltree_ref16_Once_2 L_ref16_Once_5 a.1 b.1 (fun a' b' => some (.inl (a', b'))) fun r => some (.inr r)) p.1 p.2) (x, y)
theorem nl_ref16_Once_2 (L_ref16_Once_5 : LT_ref16_Once_5 → LM_ref16_Once_5 → Option LO_ref16_Once_5) (x1 : List Int) (x2 : List Int) {α : Type} (kn : LT_ref16_Once_2 → LM_ref16_Once_2 → Option α) (kr : LO_ref16_Once_2 → Option α) : ltree_ref16_Once_2 L_ref16_Once_5 x1 x2 kn kr = (ltree_ref16_Once_2 L_ref16_Once_5 x1 x2 (fun a b => some (.inl (a, b))) fun r => some (.inr r)).bind (Sum.elim (fun p : LT_ref16_Once_2 × LM_ref16_Once_2 => kn p.1 p.2) kr) := by simp only [ltree_ref16_Once_2, bind_cond, bind_none', bind_some', bind_bind', bind_sum, Sum.elim_inl, Sum.elim_inr]
theorem Le_ref16_Once_2 (x1 : List Int) (x2 : List Int) : L_ref16_Once_2 (x1, ()) (x2, ()) = ltree_ref16_Once_2 L_ref16_Once_5 x1 x2 L_ref16_Once_2 some := runL_tree (A := LT_ref16_Once_2) (B := LM_ref16_Once_2) (R := LO_ref16_Once_2) (fun a b kn kr => ltree_ref16_Once_2 L_ref16_Once_5 a.1 b.1 kn kr) (fun a b kn kr => nl_ref16_Once_2 L_ref16_Once_5 a.1 b.1 kn kr) (x1, ()) (x2, ())
def tree_ref16_Once (L_ref16_Once_2 : LT_ref16_Once_2 → LM_ref16_Once_2 → Option LO_ref16_Once_2) {α : Type} (x1 : List Int) (K : O_ref16_Once → Option α) : Option α :=
 (L_ref16_Once_2 (x1, ()) ([], ())).bind fun r1 =>
 K (r1.snd.fst, ())
noncomputable def F_ref16_Once : A_ref16_Once → M_ref16_Once → Option O_ref16_Once := fun a b => tree_ref16_Once L_ref16_Once_2 a.1 some
theorem n_ref16_Once (L_ref16_Once_2 : LT_ref16_Once_2 → LM_ref16_Once_2 → Option LO_ref16_Once_2) (x1 : List Int) {α : Type} (K : O_ref16_Once → Option α) : tree_ref16_Once L_ref16_Once_2 x1 K = (tree_ref16_Once L_ref16_Once_2 x1 some).bind K := by simp only [tree_ref16_Once, bind_cond, bind_none', bind_some', bind_bind', bind_sum]
theorem Fe_ref16_Once (x1 : List Int) : F_ref16_Once (x1, ()) () = tree_ref16_Once L_ref16_Once_2 x1 some := rfl

/-! countersign/countersignref16.Has -/
def args_ref16_Has : SkL := (.cons (.leaf (.slc 22 (.cons (.int .u64) .nil))) (.cons (.leaf (.int .u64)) .nil))
def mem_ref16_Has : MSk := []
def outs_ref16_Has : List OutC := [⟨(.leaf .bool), []⟩]
abbrev A_ref16_Has : Type := (List Int × Int × Unit)
abbrev M_ref16_Has : Type := Unit
abbrev O_ref16_Has : Type := Bool × Unit
def ltmps_ref16_Has_2 : SkL := (.cons (.leaf (.slc 22 (.cons (.int .u64) .nil))) (.cons (.leaf (.int .u64)) (dz 3 (.cons (.leaf (.int .i64)) (dz 12 .nil)))))
def lmem_ref16_Has_2 : MSk := []
def louts_ref16_Has_2 : List OutL := [⟨.ret, (dz 4 (.cons (.leaf .bool) (dz 13 .nil))), []⟩, ⟨(.exit 0), (dz 18 .nil), []⟩]
abbrev LT_ref16_Has_2 : Type := (List Int × Int × Int × Unit)
abbrev LM_ref16_Has_2 : Type := Unit
abbrev LO_ref16_Has_2 : Type := ((Bool × Unit) × Unit) ⊕ (Unit × Unit)
def ltree_ref16_Has_2 {α : Type} (x1 : List Int) (x2 : Int) (x3 : Int) (kn : LT_ref16_Has_2 → LM_ref16_Has_2 → Option α) (kr : LO_ref16_Has_2 → Option α) : Option α :=
 cond (decide (x3 < (↑x1.length : Int)))
 (cond (decide (0 ≤ x3))
 (cond (decide (x3 < (↑x1.length : Int)))
 (cond (x1.getD x3.toNat 0 == x2)
 (kr (.inl ((true, ()), ())))
 (kn (x1, (x2, (IntKind.i64.wrap (x3 + 1), ()))) ()))
 (none))
 (none))
 (kr (.inr ((), ())))
noncomputable def L_ref16_Has_2 : LT_ref16_Has_2 → LM_ref16_Has_2 → Option LO_ref16_Has_2 := fun x y => runL (fun p => (fun (a : LT_ref16_Has_2) (b : LM_ref16_Has_2) => ltree_ref16_Has_2 a.1 a.2.1 a.2.2.1 (fun a' b' => some (.inl (a', b'))) fun r => some (.inr r)) p.1 p.2) (x, y)
theorem nl_ref16_Has_2 (x1 : List Int) (x2 : Int) (x3 : Int) {α : Type} (kn : LT_ref16_Has_2 → LM_ref16_Has_2 → Option α) (kr : LO_ref16_Has_2 → Option α) : ltree_ref16_Has_2 x1 x2 x3 kn kr = (ltree_ref16_Has_2 x1 x2 x3 (fun a b => some (.inl (a, b))) fun r => some (.inr r)).bind (Sum.elim (fun p : LT_ref16_Has_2 × LM_ref16_Has_2 => kn p.1 p.2) kr) := by simp only [ltree_ref16_Has_2, bind_cond, bind_none', bind_some', bind_bind', bind_sum, Sum.elim_inl, Sum.elim_inr]
theorem Le_ref16_Has_2 (x1 : List Int) (x2 : Int) (x3 : Int) : L_ref16_Has_2 (x1, (x2, (x3, ()))) () = ltree_ref16_Has_2 x1 x2 x3 L_ref16_Has_2 some := runL_tree (A := LT_ref16_Has_2) (B := LM_ref16_Has_2) (R := LO_ref16_Has_2) (fun a b kn kr => ltree_ref16_Has_2 a.1 a.2.1 a.2.2.1 kn kr) (fun a b kn kr => nl_ref16_Has_2 a.1 a.2.1 a.2.2.1 kn kr) (x1, (x2, (x3, ()))) ()
def tree_ref16_Has (L_ref16_Has_2 : LT_ref16_Has_2 → LM_ref16_Has_2 → Option LO_ref16_Has_2) {α : Type} (x1 : List Int) (x2 : Int) (K : O_ref16_Has → Option α) : Option α :=
 (L_ref16_Has_2 (x1, x2, 0, ()) ()).bind fun r1 =>
 Sum.elim (fun u2 =>
 K (u2.fst.fst, ()))
 (fun u2 =>
 K (false, ())) (r1)
noncomputable def F_ref16_Has : A_ref16_Has → M_ref16_Has → Option O_ref16_Has := fun a b => tree_ref16_Has L_ref16_Has_2 a.1 a.2.1 some
theorem n_ref16_Has (L_ref16_Has_2 : LT_ref16_Has_2 → LM_ref16_Has_2 → Option LO_ref16_Has_2) (x1 : List Int) (x2 : Int) {α : Type} (K : O_ref16_Has → Option α) : tree_ref16_Has L_ref16_Has_2 x1 x2 K = (tree_ref16_Has L_ref16_Has_2 x1 x2 some).bind K := by simp only [tree_ref16_Has, bind_cond, bind_none', bind_some', bind_bind', bind_sum]
theorem Fe_ref16_Has (x1 : List Int) (x2 : Int) : F_ref16_Has (x1, (x2, ())) () = tree_ref16_Has L_ref16_Has_2 x1 x2 some := rfl

/-! countersign/countersignref16.Most -/
def args_ref16_Most : SkL := (.cons (.leaf (.slc 22 (.cons (.int .u64) .nil))) (.cons (.leaf (.slc 22 (.cons (.int .u64) .nil))) .nil))
def mem_ref16_Most : MSk := []
def outs_ref16_Most : List OutC := [⟨(.leaf .bool), []⟩]
abbrev A_ref16_Most : Type := (List Int × List Int × Unit)
abbrev M_ref16_Most : Type := Unit
abbrev O_ref16_Most : Type := Bool × Unit
def ltmps_ref16_Most_4 : SkL := (.cons (.const .dead) (.cons (.leaf (.slc 22 (.cons (.int .u64) .nil))) (dz 3 (.cons (.leaf (.slc 22 (.cons (.int .u64) .nil))) (.cons (.leaf (.int .i64)) (.cons (.leaf (.int .i64)) (dz 21 .nil)))))))
def lmem_ref16_Most_4 : MSk := []
def louts_ref16_Most_4 : List OutL := [⟨(.exit 0), (dz 5 (.cons (.leaf (.slc 22 (.cons (.int .u64) .nil))) (.cons (.leaf (.int .i64)) (dz 22 .nil)))), []⟩]
abbrev LT_ref16_Most_4 : Type := (List Int × List Int × Int × Int × Unit)
abbrev LM_ref16_Most_4 : Type := Unit
abbrev LO_ref16_Most_4 : Type := (List Int × Int × Unit) × Unit
def ltree_ref16_Most_4 (F_ref16_Has : A_ref16_Has → M_ref16_Has → Option O_ref16_Has) {α : Type} (x1 : List Int) (x2 : List Int) (x3 : Int) (x4 : Int) (kn : LT_ref16_Most_4 → LM_ref16_Most_4 → Option α) (kr : LO_ref16_Most_4 → Option α) : Option α :=
 cond (decide (x4 < (↑x2.length : Int)))
 (cond (decide (0 ≤ x4))
 (cond (decide (x4 < (↑x2.length : Int)))
 ((F_ref16_Has (x1, x2.getD x4.toNat 0, ()) ()).bind fun r1 =>
 cond (r1.fst)
 (kn (x1, (x2, (IntKind.i64.wrap (x3 + 1), (IntKind.i64.wrap (x4 + 1), ())))) ())
 (kn (x1, (x2, (x3, (IntKind.i64.wrap (x4 + 1), ())))) ()))
 (none))
 (none))
 (kr ((x2, (x3, ())), ()))
noncomputable def L_ref16_Most_4 : LT_ref16_Most_4 → LM_ref16_Most_4 → Option LO_ref16_Most_4 := fun x y => runL (fun p => (fun (a : LT_ref16_Most_4) (b : LM_ref16_Most_4) => ltree_ref16_Most_4 F_ref16_Has a.1 a.2.1 a.2.2.1 a.2.2.2.1 (fun a' b' => some (.inl (a', b'))) fun r => some (.inr r)) p.1 p.2) (x, y)
theorem nl_ref16_Most_4 (F_ref16_Has : A_ref16_Has → M_ref16_Has → Option O_ref16_Has) (x1 : List Int) (x2 : List Int) (x3 : Int) (x4 : Int) {α : Type} (kn : LT_ref16_Most_4 → LM_ref16_Most_4 → Option α) (kr : LO_ref16_Most_4 → Option α) : ltree_ref16_Most_4 F_ref16_Has x1 x2 x3 x4 kn kr = (ltree_ref16_Most_4 F_ref16_Has x1 x2 x3 x4 (fun a b => some (.inl (a, b))) fun r => some (.inr r)).bind (Sum.elim (fun p : LT_ref16_Most_4 × LM_ref16_Most_4 => kn p.1 p.2) kr) := by simp only [ltree_ref16_Most_4, bind_cond, bind_none', bind_some', bind_bind', bind_sum, Sum.elim_inl, Sum.elim_inr]
theorem Le_ref16_Most_4 (x1 : List Int) (x2 : List Int) (x3 : Int) (x4 : Int) : L_ref16_Most_4 (x1, (x2, (x3, (x4, ())))) () = ltree_ref16_Most_4 F_ref16_Has x1 x2 x3 x4 L_ref16_Most_4 some := runL_tree (A := LT_ref16_Most_4) (B := LM_ref16_Most_4) (R := LO_ref16_Most_4) (fun a b kn kr => ltree_ref16_Most_4 F_ref16_Has a.1 a.2.1 a.2.2.1 a.2.2.2.1 kn kr) (fun a b kn kr => nl_ref16_Most_4 F_ref16_Has a.1 a.2.1 a.2.2.1 a.2.2.2.1 kn kr) (x1, (x2, (x3, (x4, ())))) ()
def tree_ref16_Most (F_ref16_Once : A_ref16_Once → M_ref16_Once → Option O_ref16_Once) (L_ref16_Most_4 : LT_ref16_Most_4 → LM_ref16_Most_4 → Option LO_ref16_Most_4) {α : Type} (x1 : List Int) (x2 : List Int) (K : O_ref16_Most → Option α) : Option α :=
 (F_ref16_Once (x1, ()) ()).bind fun r1 =>
 (L_ref16_Most_4 (x2, r1.fst, 0, 0, ()) ()).bind fun r2 =>
 K (decide (IntKind.i64.wrap (2 * r2.fst.snd.fst) > (↑r2.fst.fst.length : Int)), ())
noncomputable def F_ref16_Most : A_ref16_Most → M_ref16_Most → Option O_ref16_Most := fun a b => tree_ref16_Most F_ref16_Once L_ref16_Most_4 a.1 a.2.1 some
theorem n_ref16_Most (F_ref16_Once : A_ref16_Once → M_ref16_Once → Option O_ref16_Once) (L_ref16_Most_4 : LT_ref16_Most_4 → LM_ref16_Most_4 → Option LO_ref16_Most_4) (x1 : List Int) (x2 : List Int) {α : Type} (K : O_ref16_Most → Option α) : tree_ref16_Most F_ref16_Once L_ref16_Most_4 x1 x2 K = (tree_ref16_Most F_ref16_Once L_ref16_Most_4 x1 x2 some).bind K := by simp only [tree_ref16_Most, bind_cond, bind_none', bind_some', bind_bind', bind_sum]
theorem Fe_ref16_Most (x1 : List Int) (x2 : List Int) : F_ref16_Most (x1, (x2, ())) () = tree_ref16_Most F_ref16_Once L_ref16_Most_4 x1 x2 some := rfl

/-! countersign/countersignref16.Change -/
def args_ref16_Change : SkL := (.cons (.leaf (.slc 22 (.cons (.int .u64) .nil))) (.cons (.leaf (.int .u64)) .nil))
def mem_ref16_Change : MSk := []
def outs_ref16_Change : List OutC := [⟨(.tup (.cons (.leaf (.slc 22 (.cons (.int .u64) .nil))) (.cons (.leaf .bool) .nil))), []⟩]
abbrev A_ref16_Change : Type := (List Int × Int × Unit)
abbrev M_ref16_Change : Type := Unit
abbrev O_ref16_Change : Type := (List Int × Bool × Unit) × Unit
def ltmps_ref16_Change_4 : SkL := (.cons (.const .dead) (.cons (.leaf (.int .u64)) (dz 4 (.cons (.leaf (.slc 22 (.cons (.int .u64) .nil))) (.cons (.const (.slw 507)) (.cons (.leaf (.int .i64)) (dz 42 .nil)))))))
def lmem_ref16_Change_4 : MSk := [(507, .row 22 (.cons (.int .u64) .nil))]
def louts_ref16_Change_4 : List OutL := [⟨(.exit 0), (.cons (.const .dead) (.cons (.leaf (.int .u64)) (dz 4 (.cons (.leaf (.slc 22 (.cons (.int .u64) .nil))) (.cons (.const (.slw 507)) (dz 43 .nil)))))), [(507, .row 22 (.cons (.int .u64) .nil))]⟩]
abbrev LT_ref16_Change_4 : Type := (Int × List Int × Int × Unit)
abbrev LM_ref16_Change_4 : Type := (List Int × Unit)
abbrev LO_ref16_Change_4 : Type := (Int × List Int × Unit) × (List Int × Unit)
def ltree_ref16_Change_4 {α : Type} (x1 : Int) (x2 : List Int) (x3 : Int) (x4 : List Int) (kn : LT_ref16_Change_4 → LM_ref16_Change_4 → Option α) (kr : LO_ref16_Change_4 → Option α) : Option α :=
 cond (decide (x3 < (↑x2.length : Int)))
 (cond (decide (0 ≤ x3))
 (cond (decide (x3 < (↑x2.length : Int)))
 (cond (x2.getD x3.toNat 0 != x1)
 (cond (decide (0 ≤ x3))
 (cond (decide (x3 < (↑x2.length : Int)))
 (cond (decide ((x4.length + 1) * 8 ≤ 140737488355328))
 (kn (x1, (x2, (IntKind.i64.wrap (x3 + 1), ()))) (x4 ++ ([] ++ [x2.getD x3.toNat 0]), ()))
 (none))
 (none))
 (none))
 (kn (x1, (x2, (IntKind.i64.wrap (x3 + 1), ()))) (x4, ())))
 (none))
 (none))
 (kr ((x1, (x2, ())), (x4, ())))
noncomputable def L_ref16_Change_4 : LT_ref16_Change_4 → LM_ref16_Change_4 → Option LO_ref16_Change_4 := fun x y => runL (fun p => (fun (a : LT_ref16_Change_4) (b : LM_ref16_Change_4) => ltree_ref16_Change_4 a.1 a.2.1 a.2.2.1 b.1 (fun a' b' => some (.inl (a', b'))) fun r => some (.inr r)) p.1 p.2) (x, y)
theorem nl_ref16_Change_4 (x1 : Int) (x2 : List Int) (x3 : Int) (x4 : List Int) {α : Type} (kn : LT_ref16_Change_4 → LM_ref16_Change_4 → Option α) (kr : LO_ref16_Change_4 → Option α) : ltree_ref16_Change_4 x1 x2 x3 x4 kn kr = (ltree_ref16_Change_4 x1 x2 x3 x4 (fun a b => some (.inl (a, b))) fun r => some (.inr r)).bind (Sum.elim (fun p : LT_ref16_Change_4 × LM_ref16_Change_4 => kn p.1 p.2) kr) := by simp only [ltree_ref16_Change_4, bind_cond, bind_none', bind_some', bind_bind', bind_sum, Sum.elim_inl, Sum.elim_inr]
theorem Le_ref16_Change_4 (x1 : Int) (x2 : List Int) (x3 : Int) (x4 : List Int) : L_ref16_Change_4 (x1, (x2, (x3, ()))) (x4, ()) = ltree_ref16_Change_4 x1 x2 x3 x4 L_ref16_Change_4 some := runL_tree (A := LT_ref16_Change_4) (B := LM_ref16_Change_4) (R := LO_ref16_Change_4) (fun a b kn kr => ltree_ref16_Change_4 a.1 a.2.1 a.2.2.1 b.1 kn kr) (fun a b kn kr => nl_ref16_Change_4 a.1 a.2.1 a.2.2.1 b.1 kn kr) (x1, (x2, (x3, ()))) (x4, ())
def tree_ref16_Change (F_ref16_Once : A_ref16_Once → M_ref16_Once → Option O_ref16_Once) (F_ref16_Has : A_ref16_Has → M_ref16_Has → Option O_ref16_Has) (L_ref16_Change_4 : LT_ref16_Change_4 → LM_ref16_Change_4 → Option LO_ref16_Change_4) {α : Type} (x1 : List Int) (x2 : Int) (K : O_ref16_Change → Option α) : Option α :=
 (F_ref16_Once (x1, ()) ()).bind fun r1 =>
 (L_ref16_Change_4 (x2, r1.fst, 0, ()) ([], ())).bind fun r2 =>
 (F_ref16_Has (r2.fst.snd.fst, r2.fst.fst, ()) ()).bind fun r3 =>
 cond (!r3.fst)
 (cond (decide ((r2.snd.fst.length + 1) * 8 ≤ 140737488355328))
 ((F_ref16_Once (r2.snd.fst ++ ([] ++ [r2.fst.fst]), ()) ()).bind fun r4 =>
 cond (decide ((↑r4.fst.length : Int) < 1))
 (K ((r2.fst.snd.fst, (false, ())), ()))
 (cond (decide ((↑r4.fst.length : Int) > 7))
 (K ((r2.fst.snd.fst, (false, ())), ()))
 (K ((r4.fst, (true, ())), ()))))
 (none))
 (cond (decide ((↑r2.snd.fst.length : Int) < 1))
 (K ((r2.fst.snd.fst, (false, ())), ()))
 (cond (decide ((↑r2.snd.fst.length : Int) > 7))
 (K ((r2.fst.snd.fst, (false, ())), ()))
 (K ((r2.snd.fst, (true, ())), ()))))
noncomputable def F_ref16_Change : A_ref16_Change → M_ref16_Change → Option O_ref16_Change := fun a b => tree_ref16_Change F_ref16_Once F_ref16_Has L_ref16_Change_4 a.1 a.2.1 some
theorem n_ref16_Change (F_ref16_Once : A_ref16_Once → M_ref16_Once → Option O_ref16_Once) (F_ref16_Has : A_ref16_Has → M_ref16_Has → Option O_ref16_Has) (L_ref16_Change_4 : LT_ref16_Change_4 → LM_ref16_Change_4 → Option LO_ref16_Change_4) (x1 : List Int) (x2 : Int) {α : Type} (K : O_ref16_Change → Option α) : tree_ref16_Change F_ref16_Once F_ref16_Has L_ref16_Change_4 x1 x2 K = (tree_ref16_Change F_ref16_Once F_ref16_Has L_ref16_Change_4 x1 x2 some).bind K := by simp only [tree_ref16_Change, bind_cond, bind_none', bind_some', bind_bind', bind_sum]
theorem Fe_ref16_Change (x1 : List Int) (x2 : Int) : F_ref16_Change (x1, (x2, ())) () = tree_ref16_Change F_ref16_Once F_ref16_Has L_ref16_Change_4 x1 x2 some := rfl

/-! countersign/countersignref16.Seen -/
def args_ref16_Seen : SkL := (.cons (.agg (.cons (.leaf (.int .u64)) (.cons (.leaf (.int .u64)) .nil))) (.cons (.leaf (.int .u64)) .nil))
def mem_ref16_Seen : MSk := []
def outs_ref16_Seen : List OutC := [⟨(.agg (.cons (.leaf (.int .u64)) (.cons (.leaf (.int .u64)) .nil))), []⟩]
abbrev A_ref16_Seen : Type := ((Int × Int × Unit) × Int × Unit)
abbrev M_ref16_Seen : Type := Unit
abbrev O_ref16_Seen : Type := (Int × Int × Unit) × Unit
def tree_ref16_Seen {α : Type} (x1 : Int) (x2 : Int) (x3 : Int) (K : O_ref16_Seen → Option α) : Option α :=
 cond (decide (x3 > x1))
 (K ((x3, (0, ())), ()))
 (K ((x1, (x2, ())), ()))
noncomputable def F_ref16_Seen : A_ref16_Seen → M_ref16_Seen → Option O_ref16_Seen := fun a b => tree_ref16_Seen a.1.1 a.1.2.1 a.2.1 some
theorem n_ref16_Seen (x1 : Int) (x2 : Int) (x3 : Int) {α : Type} (K : O_ref16_Seen → Option α) : tree_ref16_Seen x1 x2 x3 K = (tree_ref16_Seen x1 x2 x3 some).bind K := by simp only [tree_ref16_Seen, bind_cond, bind_none', bind_some', bind_bind', bind_sum]
theorem Fe_ref16_Seen (x1 : Int) (x2 : Int) (x3 : Int) : F_ref16_Seen ((x1, (x2, ())), (x3, ())) () = tree_ref16_Seen x1 x2 x3 some := rfl

/-! countersign/countersignref16.Ask -/
def args_ref16_Ask : SkL := (.cons (.agg (.cons (.leaf (.int .u64)) (.cons (.leaf (.int .u64)) .nil))) (.cons (.agg (.cons (.leaf (.int .u64)) (.cons (.leaf (.int .u64)) (.cons (.leaf (.slc 70 (.cons (.int .u64) (.cons (.int .i64) (.cons .str .nil))))) .nil)))) (.cons (.leaf (.int .u64)) (.cons (.leaf (.int .u64)) (.cons (.leaf (.int .u64)) (.cons (.leaf (.int .u64)) .nil))))))
def mem_ref16_Ask : MSk := []
def outs_ref16_Ask : List OutC := [⟨(.tup (.cons (.agg (.cons (.leaf (.int .u64)) (.cons (.leaf (.int .u64)) .nil))) (.cons (.leaf .bool) .nil))), []⟩]
abbrev A_ref16_Ask : Type := ((Int × Int × Unit) × (Int × Int × (List (Int × Int × ByteArray)) × Unit) × Int × Int × Int × Int × Unit)
abbrev M_ref16_Ask : Type := Unit
abbrev O_ref16_Ask : Type := ((Int × Int × Unit) × Bool × Unit) × Unit
def tree_ref16_Ask (F_ref16_Seen : A_ref16_Seen → M_ref16_Seen → Option O_ref16_Seen) (F_ref15_Newer : A_ref15_Newer → M_ref15_Newer → Option O_ref15_Newer) {α : Type} (x1 : Int) (x2 : Int) (x3 : Int) (x4 : Int) (x5 : List (Int × Int × ByteArray)) (x6 : Int) (x7 : Int) (x8 : Int) (x9 : Int) (K : O_ref16_Ask → Option α) : Option α :=
 cond (decide (x6 < x1))
 (K (((x1, (x2, ())), (false, ())), ()))
 (cond (IntKind.u64.wrap (x7 + 1) == 0)
 (K (((x1, (x2, ())), (false, ())), ()))
 ((F_ref16_Seen ((x1, x2, ()), x6, ()) ()).bind fun r1 =>
 cond (r1.fst.snd.fst == 0)
 ((F_ref15_Newer ((x3, x4, x5, ()), x8, x9, ()) ()).bind fun r2 =>
 cond (r2.fst)
 (K (((r1.fst.fst, (IntKind.u64.wrap (x7 + 1), ())), (true, ())), ()))
 (K (((r1.fst.fst, (r1.fst.snd.fst, ())), (false, ())), ())))
 (cond (r1.fst.snd.fst == IntKind.u64.wrap (x7 + 1))
 ((F_ref15_Newer ((x3, x4, x5, ()), x8, x9, ()) ()).bind fun r3 =>
 cond (r3.fst)
 (K (((r1.fst.fst, (IntKind.u64.wrap (x7 + 1), ())), (true, ())), ()))
 (K (((r1.fst.fst, (r1.fst.snd.fst, ())), (false, ())), ())))
 (K (((r1.fst.fst, (r1.fst.snd.fst, ())), (false, ())), ())))))
noncomputable def F_ref16_Ask : A_ref16_Ask → M_ref16_Ask → Option O_ref16_Ask := fun a b => tree_ref16_Ask F_ref16_Seen F_ref15_Newer a.1.1 a.1.2.1 a.2.1.1 a.2.1.2.1 a.2.1.2.2.1 a.2.2.1 a.2.2.2.1 a.2.2.2.2.1 a.2.2.2.2.2.1 some
theorem n_ref16_Ask (F_ref16_Seen : A_ref16_Seen → M_ref16_Seen → Option O_ref16_Seen) (F_ref15_Newer : A_ref15_Newer → M_ref15_Newer → Option O_ref15_Newer) (x1 : Int) (x2 : Int) (x3 : Int) (x4 : Int) (x5 : List (Int × Int × ByteArray)) (x6 : Int) (x7 : Int) (x8 : Int) (x9 : Int) {α : Type} (K : O_ref16_Ask → Option α) : tree_ref16_Ask F_ref16_Seen F_ref15_Newer x1 x2 x3 x4 x5 x6 x7 x8 x9 K = (tree_ref16_Ask F_ref16_Seen F_ref15_Newer x1 x2 x3 x4 x5 x6 x7 x8 x9 some).bind K := by simp only [tree_ref16_Ask, bind_cond, bind_none', bind_some', bind_bind', bind_sum]
theorem Fe_ref16_Ask (x1 : Int) (x2 : Int) (x3 : Int) (x4 : Int) (x5 : List (Int × Int × ByteArray)) (x6 : Int) (x7 : Int) (x8 : Int) (x9 : Int) : F_ref16_Ask ((x1, (x2, ())), ((x3, (x4, (x5, ()))), (x6, (x7, (x8, (x9, ())))))) () = tree_ref16_Ask F_ref16_Seen F_ref15_Newer x1 x2 x3 x4 x5 x6 x7 x8 x9 some := rfl

end Go.Proofs.Ytjhaidbfahobmaa.S2
