/- Plain forms of the program's functions, by program. -/
import Derived.Test.YtjhaidbfahobmaaS2y
set_option maxRecDepth 100000
set_option maxHeartbeats 0
set_option linter.unusedVariables false
set_option linter.unusedSimpArgs false
namespace Go.Proofs.Ytjhaidbfahobmaa.S2
open Go
/-! countersign/countersignref15.Last -/
def args_ref15_Last : SkL := (.cons (.agg (.cons (.leaf (.int .u64)) (.cons (.leaf (.int .u64)) (.cons (.leaf (.slc 70 (.cons (.int .u64) (.cons (.int .i64) (.cons .str .nil))))) .nil)))) .nil)
def mem_ref15_Last : MSk := []
def outs_ref15_Last : List OutC := [⟨(.leaf (.int .u64)), []⟩]
abbrev A_ref15_Last : Type := ((Int × Int × (List (Int × Int × ByteArray)) × Unit) × Unit)
abbrev M_ref15_Last : Type := Unit
abbrev O_ref15_Last : Type := Int × Unit
def tree_ref15_Last {α : Type} (x1 : Int) (x2 : Int) (x3 : List (Int × Int × ByteArray)) (K : O_ref15_Last → Option α) : Option α :=
 K (IntKind.u64.wrap (x1 + IntKind.u64.wrap (↑x3.length : Int)), ())
noncomputable def F_ref15_Last : A_ref15_Last → M_ref15_Last → Option O_ref15_Last := fun a b => tree_ref15_Last a.1.1 a.1.2.1 a.1.2.2.1 some
theorem n_ref15_Last (x1 : Int) (x2 : Int) (x3 : List (Int × Int × ByteArray)) {α : Type} (K : O_ref15_Last → Option α) : tree_ref15_Last x1 x2 x3 K = (tree_ref15_Last x1 x2 x3 some).bind K := by simp only [tree_ref15_Last, bind_cond, bind_none', bind_some', bind_bind', bind_sum]
theorem Fe_ref15_Last (x1 : Int) (x2 : Int) (x3 : List (Int × Int × ByteArray)) : F_ref15_Last ((x1, (x2, (x3, ()))), ()) () = tree_ref15_Last x1 x2 x3 some := rfl

/-! countersign/countersignref15.Entry -/
def args_ref15_Entry : SkL := (.cons (.agg (.cons (.leaf (.int .u64)) (.cons (.leaf (.int .u64)) (.cons (.leaf (.slc 70 (.cons (.int .u64) (.cons (.int .i64) (.cons .str .nil))))) .nil)))) (.cons (.leaf (.int .u64)) .nil))
def mem_ref15_Entry : MSk := []
def outs_ref15_Entry : List OutC := [⟨(.tup (.cons (.agg (.cons (.leaf (.int .u64)) (.cons (.leaf (.int .i64)) (.cons (.leaf .str) .nil)))) (.cons (.leaf .bool) .nil))), []⟩]
abbrev A_ref15_Entry : Type := ((Int × Int × (List (Int × Int × ByteArray)) × Unit) × Int × Unit)
abbrev M_ref15_Entry : Type := Unit
abbrev O_ref15_Entry : Type := ((Int × Int × ByteArray × Unit) × Bool × Unit) × Unit
def ltmps_ref15_Entry_2 : SkL := (.cons (.const .dead) (.cons (.leaf (.int .u64)) (.cons (.const (.ptr 1064 0 0)) (.cons (.const .dead) (.cons (.const (.ptr 1128 0 0)) (.cons (.const .dead) (.cons (.leaf (.int .i64)) (dz 21 .nil))))))))
def lmem_ref15_Entry_2 : MSk := [(1064, .cells (.cons (.leaf (.int .u64)) (.cons (.leaf (.int .u64)) (.cons (.leaf (.slc 70 (.cons (.int .u64) (.cons (.int .i64) (.cons .str .nil))))) .nil)))), (1128, .cells (.cons (.leaf (.int .u64)) (.cons (.leaf (.int .i64)) (.cons (.leaf .str) .nil))))]
def louts_ref15_Entry_2 : List OutL := [⟨.ret, (dz 4 (.cons (.const (.ptr 1128 0 0)) (.cons (.leaf .bool) (dz 22 .nil)))), [(1128, .cells (.cons (.leaf (.int .u64)) (.cons (.leaf (.int .i64)) (.cons (.leaf .str) .nil))))]⟩, ⟨(.exit 0), (dz 4 (.cons (.const (.ptr 1128 0 0)) (dz 23 .nil))), [(1128, .cells (.cons (.leaf (.int .u64)) (.cons (.leaf (.int .i64)) (.cons (.leaf .str) .nil))))]⟩]
abbrev LT_ref15_Entry_2 : Type := (Int × Int × Unit)
abbrev LM_ref15_Entry_2 : Type := ((Int × Int × (List (Int × Int × ByteArray)) × Unit) × (Int × Int × ByteArray × Unit) × Unit)
abbrev LO_ref15_Entry_2 : Type := ((Bool × Unit) × ((Int × Int × ByteArray × Unit) × Unit)) ⊕ (Unit × ((Int × Int × ByteArray × Unit) × Unit))
def ltree_ref15_Entry_2 {α : Type} (x1 : Int) (x2 : Int) (x3 : Int) (x4 : Int) (x5 : List (Int × Int × ByteArray)) (x6 : Int) (x7 : Int) (x8 : ByteArray) (kn : LT_ref15_Entry_2 → LM_ref15_Entry_2 → Option α) (kr : LO_ref15_Entry_2 → Option α) : Option α :=
 cond (decide (x2 < (↑x5.length : Int)))
 (cond (IntKind.u64.wrap (IntKind.u64.wrap (x3 + IntKind.u64.wrap x2) + 1) == x1)
 (cond (decide (0 ≤ x2))
 (cond (decide (x2 < (↑x5.length : Int)))
 (kr (.inl ((true, ()), (((x5.getD x2.toNat (0, 0, ByteArray.empty)).fst, ((x5.getD x2.toNat (0, 0, ByteArray.empty)).snd.fst, ((x5.getD x2.toNat (0, 0, ByteArray.empty)).snd.snd, ()))), ()))))
 (none))
 (none))
 (kn (x1, (IntKind.i64.wrap (x2 + 1), ())) ((x3, (x4, (x5, ()))), ((x6, (x7, (x8, ()))), ()))))
 (kr (.inr ((), ((x6, (x7, (x8, ()))), ()))))
noncomputable def L_ref15_Entry_2 : LT_ref15_Entry_2 → LM_ref15_Entry_2 → Option LO_ref15_Entry_2 := fun x y => runL (fun p => (fun (a : LT_ref15_Entry_2) (b : LM_ref15_Entry_2) => ltree_ref15_Entry_2 a.1 a.2.1 b.1.1 b.1.2.1 b.1.2.2.1 b.2.1.1 b.2.1.2.1 b.2.1.2.2.1 (fun a' b' => some (.inl (a', b'))) fun r => some (.inr r)) p.1 p.2) (x, y)
theorem nl_ref15_Entry_2 (x1 : Int) (x2 : Int) (x3 : Int) (x4 : Int) (x5 : List (Int × Int × ByteArray)) (x6 : Int) (x7 : Int) (x8 : ByteArray) {α : Type} (kn : LT_ref15_Entry_2 → LM_ref15_Entry_2 → Option α) (kr : LO_ref15_Entry_2 → Option α) : ltree_ref15_Entry_2 x1 x2 x3 x4 x5 x6 x7 x8 kn kr = (ltree_ref15_Entry_2 x1 x2 x3 x4 x5 x6 x7 x8 (fun a b => some (.inl (a, b))) fun r => some (.inr r)).bind (Sum.elim (fun p : LT_ref15_Entry_2 × LM_ref15_Entry_2 => kn p.1 p.2) kr) := by simp only [ltree_ref15_Entry_2, bind_cond, bind_none', bind_some', bind_bind', bind_sum, Sum.elim_inl, Sum.elim_inr]
theorem Le_ref15_Entry_2 (x1 : Int) (x2 : Int) (x3 : Int) (x4 : Int) (x5 : List (Int × Int × ByteArray)) (x6 : Int) (x7 : Int) (x8 : ByteArray) : L_ref15_Entry_2 (x1, (x2, ())) ((x3, (x4, (x5, ()))), ((x6, (x7, (x8, ()))), ())) = ltree_ref15_Entry_2 x1 x2 x3 x4 x5 x6 x7 x8 L_ref15_Entry_2 some := runL_tree (A := LT_ref15_Entry_2) (B := LM_ref15_Entry_2) (R := LO_ref15_Entry_2) (fun a b kn kr => ltree_ref15_Entry_2 a.1 a.2.1 b.1.1 b.1.2.1 b.1.2.2.1 b.2.1.1 b.2.1.2.1 b.2.1.2.2.1 kn kr) (fun a b kn kr => nl_ref15_Entry_2 a.1 a.2.1 b.1.1 b.1.2.1 b.1.2.2.1 b.2.1.1 b.2.1.2.1 b.2.1.2.2.1 kn kr) (x1, (x2, ())) ((x3, (x4, (x5, ()))), ((x6, (x7, (x8, ()))), ()))
def tree_ref15_Entry (L_ref15_Entry_2 : LT_ref15_Entry_2 → LM_ref15_Entry_2 → Option LO_ref15_Entry_2) {α : Type} (x1 : Int) (x2 : Int) (x3 : List (Int × Int × ByteArray)) (x4 : Int) (K : O_ref15_Entry → Option α) : Option α :=
 (L_ref15_Entry_2 (x4, 0, ()) ((x1, x2, x3, ()), (0, 0, ByteArray.empty, ()), ())).bind fun r1 =>
 Sum.elim (fun u2 =>
 K (((u2.snd.fst.fst, (u2.snd.fst.snd.fst, (u2.snd.fst.snd.snd.fst, ()))), (u2.fst.fst, ())), ()))
 (fun u2 =>
 K (((0, (0, (ByteArray.empty, ()))), (false, ())), ())) (r1)
noncomputable def F_ref15_Entry : A_ref15_Entry → M_ref15_Entry → Option O_ref15_Entry := fun a b => tree_ref15_Entry L_ref15_Entry_2 a.1.1 a.1.2.1 a.1.2.2.1 a.2.1 some
theorem n_ref15_Entry (L_ref15_Entry_2 : LT_ref15_Entry_2 → LM_ref15_Entry_2 → Option LO_ref15_Entry_2) (x1 : Int) (x2 : Int) (x3 : List (Int × Int × ByteArray)) (x4 : Int) {α : Type} (K : O_ref15_Entry → Option α) : tree_ref15_Entry L_ref15_Entry_2 x1 x2 x3 x4 K = (tree_ref15_Entry L_ref15_Entry_2 x1 x2 x3 x4 some).bind K := by simp only [tree_ref15_Entry, bind_cond, bind_none', bind_some', bind_bind', bind_sum]
theorem Fe_ref15_Entry (x1 : Int) (x2 : Int) (x3 : List (Int × Int × ByteArray)) (x4 : Int) : F_ref15_Entry ((x1, (x2, (x3, ()))), (x4, ())) () = tree_ref15_Entry L_ref15_Entry_2 x1 x2 x3 x4 some := rfl

/-! countersign/countersignref15.Term -/
def args_ref15_Term : SkL := (.cons (.agg (.cons (.leaf (.int .u64)) (.cons (.leaf (.int .u64)) (.cons (.leaf (.slc 70 (.cons (.int .u64) (.cons (.int .i64) (.cons .str .nil))))) .nil)))) (.cons (.leaf (.int .u64)) .nil))
def mem_ref15_Term : MSk := []
def outs_ref15_Term : List OutC := [⟨(.tup (.cons (.leaf (.int .u64)) (.cons (.leaf .bool) .nil))), []⟩]
abbrev A_ref15_Term : Type := ((Int × Int × (List (Int × Int × ByteArray)) × Unit) × Int × Unit)
abbrev M_ref15_Term : Type := Unit
abbrev O_ref15_Term : Type := (Int × Bool × Unit) × Unit
def tree_ref15_Term (F_ref15_Entry : A_ref15_Entry → M_ref15_Entry → Option O_ref15_Entry) {α : Type} (x1 : Int) (x2 : Int) (x3 : List (Int × Int × ByteArray)) (x4 : Int) (K : O_ref15_Term → Option α) : Option α :=
 cond (x4 == x1)
 (K ((x2, (true, ())), ()))
 ((F_ref15_Entry ((x1, x2, x3, ()), x4, ()) ()).bind fun r1 =>
 K ((r1.fst.fst.fst, (r1.fst.snd.fst, ())), ()))
noncomputable def F_ref15_Term : A_ref15_Term → M_ref15_Term → Option O_ref15_Term := fun a b => tree_ref15_Term F_ref15_Entry a.1.1 a.1.2.1 a.1.2.2.1 a.2.1 some
theorem n_ref15_Term (F_ref15_Entry : A_ref15_Entry → M_ref15_Entry → Option O_ref15_Entry) (x1 : Int) (x2 : Int) (x3 : List (Int × Int × ByteArray)) (x4 : Int) {α : Type} (K : O_ref15_Term → Option α) : tree_ref15_Term F_ref15_Entry x1 x2 x3 x4 K = (tree_ref15_Term F_ref15_Entry x1 x2 x3 x4 some).bind K := by simp only [tree_ref15_Term, bind_cond, bind_none', bind_some', bind_bind', bind_sum]
theorem Fe_ref15_Term (x1 : Int) (x2 : Int) (x3 : List (Int × Int × ByteArray)) (x4 : Int) : F_ref15_Term ((x1, (x2, (x3, ()))), (x4, ())) () = tree_ref15_Term F_ref15_Entry x1 x2 x3 x4 some := rfl

/-! countersign/countersignref15.Slice -/
def args_ref15_Slice : SkL := (.cons (.agg (.cons (.leaf (.int .u64)) (.cons (.leaf (.int .u64)) (.cons (.leaf (.slc 70 (.cons (.int .u64) (.cons (.int .i64) (.cons .str .nil))))) .nil)))) (.cons (.leaf (.int .u64)) (.cons (.leaf (.int .i64)) .nil)))
def mem_ref15_Slice : MSk := []
def outs_ref15_Slice : List OutC := [⟨(.leaf (.slc 70 (.cons (.int .u64) (.cons (.int .i64) (.cons .str .nil))))), []⟩]
abbrev A_ref15_Slice : Type := ((Int × Int × (List (Int × Int × ByteArray)) × Unit) × Int × Int × Unit)
abbrev M_ref15_Slice : Type := Unit
abbrev O_ref15_Slice : Type := (List (Int × Int × ByteArray)) × Unit
def ltmps_ref15_Slice_3 : SkL := (.cons (.const .dead) (.cons (.leaf (.int .u64)) (.cons (.leaf (.int .i64)) (.cons (.const (.ptr 1096 0 0)) (dz 3 (.cons (.const (.slw 507)) (.cons (.leaf (.int .u64)) (dz 32 .nil))))))))
def lmem_ref15_Slice_3 : MSk := [(507, .row 70 (.cons (.int .u64) (.cons (.int .i64) (.cons .str .nil)))), (1096, .cells (.cons (.leaf (.int .u64)) (.cons (.leaf (.int .u64)) (.cons (.leaf (.slc 70 (.cons (.int .u64) (.cons (.int .i64) (.cons .str .nil))))) .nil))))]
def louts_ref15_Slice_3 : List OutL := [⟨(.exit 0), (dz 7 (.cons (.const (.slw 507)) (dz 33 .nil))), [(507, .row 70 (.cons (.int .u64) (.cons (.int .i64) (.cons .str .nil))))]⟩]
abbrev LT_ref15_Slice_3 : Type := (Int × Int × Int × Unit)
abbrev LM_ref15_Slice_3 : Type := ((List (Int × Int × ByteArray)) × (Int × Int × (List (Int × Int × ByteArray)) × Unit) × Unit)
abbrev LO_ref15_Slice_3 : Type := Unit × ((List (Int × Int × ByteArray)) × Unit)
def ltree_ref15_Slice_3 (F_ref15_Last : A_ref15_Last → M_ref15_Last → Option O_ref15_Last) (F_ref15_Entry : A_ref15_Entry → M_ref15_Entry → Option O_ref15_Entry) {α : Type} (x1 : Int) (x2 : Int) (x3 : Int) (x4 : List (Int × Int × ByteArray)) (x5 : Int) (x6 : Int) (x7 : List (Int × Int × ByteArray)) (kn : LT_ref15_Slice_3 → LM_ref15_Slice_3 → Option α) (kr : LO_ref15_Slice_3 → Option α) : Option α :=
 (F_ref15_Last ((x5, x6, x7, ()), ()) ()).bind fun r1 =>
 cond (decide (x3 ≤ r1.fst))
 ((F_ref15_Entry ((x5, x6, x7, ()), x3, ()) ()).bind fun r2 =>
 cond (decide (x3 ≥ x1))
 (cond (decide ((↑x4.length : Int) < x2))
 (cond (decide ((x4.length + 1) * 32 ≤ 140737488355328))
 (kn (x1, (x2, (IntKind.u64.wrap (x3 + 1), ()))) (x4 ++ ([] ++ [(r2.fst.fst.fst, r2.fst.fst.snd.fst, r2.fst.fst.snd.snd.fst)]), ((x5, (x6, (x7, ()))), ())))
 (none))
 (kn (x1, (x2, (IntKind.u64.wrap (x3 + 1), ()))) (x4, ((x5, (x6, (x7, ()))), ()))))
 (kn (x1, (x2, (IntKind.u64.wrap (x3 + 1), ()))) (x4, ((x5, (x6, (x7, ()))), ()))))
 (kr ((), (x4, ())))
noncomputable def L_ref15_Slice_3 : LT_ref15_Slice_3 → LM_ref15_Slice_3 → Option LO_ref15_Slice_3 := fun x y => runL (fun p => (fun (a : LT_ref15_Slice_3) (b : LM_ref15_Slice_3) => ltree_ref15_Slice_3 F_ref15_Last F_ref15_Entry a.1 a.2.1 a.2.2.1 b.1 b.2.1.1 b.2.1.2.1 b.2.1.2.2.1 (fun a' b' => some (.inl (a', b'))) fun r => some (.inr r)) p.1 p.2) (x, y)
theorem nl_ref15_Slice_3 (F_ref15_Last : A_ref15_Last → M_ref15_Last → Option O_ref15_Last) (F_ref15_Entry : A_ref15_Entry → M_ref15_Entry → Option O_ref15_Entry) (x1 : Int) (x2 : Int) (x3 : Int) (x4 : List (Int × Int × ByteArray)) (x5 : Int) (x6 : Int) (x7 : List (Int × Int × ByteArray)) {α : Type} (kn : LT_ref15_Slice_3 → LM_ref15_Slice_3 → Option α) (kr : LO_ref15_Slice_3 → Option α) : ltree_ref15_Slice_3 F_ref15_Last F_ref15_Entry x1 x2 x3 x4 x5 x6 x7 kn kr = (ltree_ref15_Slice_3 F_ref15_Last F_ref15_Entry x1 x2 x3 x4 x5 x6 x7 (fun a b => some (.inl (a, b))) fun r => some (.inr r)).bind (Sum.elim (fun p : LT_ref15_Slice_3 × LM_ref15_Slice_3 => kn p.1 p.2) kr) := by simp only [ltree_ref15_Slice_3, bind_cond, bind_none', bind_some', bind_bind', bind_sum, Sum.elim_inl, Sum.elim_inr]
theorem Le_ref15_Slice_3 (x1 : Int) (x2 : Int) (x3 : Int) (x4 : List (Int × Int × ByteArray)) (x5 : Int) (x6 : Int) (x7 : List (Int × Int × ByteArray)) : L_ref15_Slice_3 (x1, (x2, (x3, ()))) (x4, ((x5, (x6, (x7, ()))), ())) = ltree_ref15_Slice_3 F_ref15_Last F_ref15_Entry x1 x2 x3 x4 x5 x6 x7 L_ref15_Slice_3 some := runL_tree (A := LT_ref15_Slice_3) (B := LM_ref15_Slice_3) (R := LO_ref15_Slice_3) (fun a b kn kr => ltree_ref15_Slice_3 F_ref15_Last F_ref15_Entry a.1 a.2.1 a.2.2.1 b.1 b.2.1.1 b.2.1.2.1 b.2.1.2.2.1 kn kr) (fun a b kn kr => nl_ref15_Slice_3 F_ref15_Last F_ref15_Entry a.1 a.2.1 a.2.2.1 b.1 b.2.1.1 b.2.1.2.1 b.2.1.2.2.1 kn kr) (x1, (x2, (x3, ()))) (x4, ((x5, (x6, (x7, ()))), ()))
def tree_ref15_Slice (L_ref15_Slice_3 : LT_ref15_Slice_3 → LM_ref15_Slice_3 → Option LO_ref15_Slice_3) {α : Type} (x1 : Int) (x2 : Int) (x3 : List (Int × Int × ByteArray)) (x4 : Int) (x5 : Int) (K : O_ref15_Slice → Option α) : Option α :=
 (L_ref15_Slice_3 (x4, x5, IntKind.u64.wrap (x1 + 1), ()) ([], (x1, x2, x3, ()), ())).bind fun r1 =>
 K (r1.snd.fst, ())
noncomputable def F_ref15_Slice : A_ref15_Slice → M_ref15_Slice → Option O_ref15_Slice := fun a b => tree_ref15_Slice L_ref15_Slice_3 a.1.1 a.1.2.1 a.1.2.2.1 a.2.1 a.2.2.1 some
theorem n_ref15_Slice (L_ref15_Slice_3 : LT_ref15_Slice_3 → LM_ref15_Slice_3 → Option LO_ref15_Slice_3) (x1 : Int) (x2 : Int) (x3 : List (Int × Int × ByteArray)) (x4 : Int) (x5 : Int) {α : Type} (K : O_ref15_Slice → Option α) : tree_ref15_Slice L_ref15_Slice_3 x1 x2 x3 x4 x5 K = (tree_ref15_Slice L_ref15_Slice_3 x1 x2 x3 x4 x5 some).bind K := by simp only [tree_ref15_Slice, bind_cond, bind_none', bind_some', bind_bind', bind_sum]
theorem Fe_ref15_Slice (x1 : Int) (x2 : Int) (x3 : List (Int × Int × ByteArray)) (x4 : Int) (x5 : Int) : F_ref15_Slice ((x1, (x2, (x3, ()))), (x4, (x5, ()))) () = tree_ref15_Slice L_ref15_Slice_3 x1 x2 x3 x4 x5 some := rfl

/-! countersign/countersignref15.Newer -/
def args_ref15_Newer : SkL := (.cons (.agg (.cons (.leaf (.int .u64)) (.cons (.leaf (.int .u64)) (.cons (.leaf (.slc 70 (.cons (.int .u64) (.cons (.int .i64) (.cons .str .nil))))) .nil)))) (.cons (.leaf (.int .u64)) (.cons (.leaf (.int .u64)) .nil)))
def mem_ref15_Newer : MSk := []
def outs_ref15_Newer : List OutC := [⟨(.leaf .bool), []⟩]
abbrev A_ref15_Newer : Type := ((Int × Int × (List (Int × Int × ByteArray)) × Unit) × Int × Int × Unit)
abbrev M_ref15_Newer : Type := Unit
abbrev O_ref15_Newer : Type := Bool × Unit
def tree_ref15_Newer (F_ref15_Last : A_ref15_Last → M_ref15_Last → Option O_ref15_Last) (F_ref15_Term : A_ref15_Term → M_ref15_Term → Option O_ref15_Term) {α : Type} (x1 : Int) (x2 : Int) (x3 : List (Int × Int × ByteArray)) (x4 : Int) (x5 : Int) (K : O_ref15_Newer → Option α) : Option α :=
 (F_ref15_Last ((x1, x2, x3, ()), ()) ()).bind fun r1 =>
 (F_ref15_Term ((x1, x2, x3, ()), r1.fst, ()) ()).bind fun r2 =>
 cond (decide (x5 > r2.fst.fst))
 (K (true, ()))
 (cond (x5 == r2.fst.fst)
 ((F_ref15_Last ((x1, x2, x3, ()), ()) ()).bind fun r3 =>
 K (decide (x4 ≥ r3.fst), ()))
 (K (false, ())))
noncomputable def F_ref15_Newer : A_ref15_Newer → M_ref15_Newer → Option O_ref15_Newer := fun a b => tree_ref15_Newer F_ref15_Last F_ref15_Term a.1.1 a.1.2.1 a.1.2.2.1 a.2.1 a.2.2.1 some
theorem n_ref15_Newer (F_ref15_Last : A_ref15_Last → M_ref15_Last → Option O_ref15_Last) (F_ref15_Term : A_ref15_Term → M_ref15_Term → Option O_ref15_Term) (x1 : Int) (x2 : Int) (x3 : List (Int × Int × ByteArray)) (x4 : Int) (x5 : Int) {α : Type} (K : O_ref15_Newer → Option α) : tree_ref15_Newer F_ref15_Last F_ref15_Term x1 x2 x3 x4 x5 K = (tree_ref15_Newer F_ref15_Last F_ref15_Term x1 x2 x3 x4 x5 some).bind K := by simp only [tree_ref15_Newer, bind_cond, bind_none', bind_some', bind_bind', bind_sum]
theorem Fe_ref15_Newer (x1 : Int) (x2 : Int) (x3 : List (Int × Int × ByteArray)) (x4 : Int) (x5 : Int) : F_ref15_Newer ((x1, (x2, (x3, ()))), (x4, (x5, ()))) () = tree_ref15_Newer F_ref15_Last F_ref15_Term x1 x2 x3 x4 x5 some := rfl

/-! countersign/countersignref15.May -/
def args_ref15_May : SkL := (.cons (.agg (.cons (.leaf (.int .u64)) (.cons (.leaf (.int .u64)) (.cons (.leaf (.slc 70 (.cons (.int .u64) (.cons (.int .i64) (.cons .str .nil))))) .nil)))) .nil)
def mem_ref15_May : MSk := []
def outs_ref15_May : List OutC := [⟨(.leaf .bool), []⟩]
abbrev A_ref15_May : Type := ((Int × Int × (List (Int × Int × ByteArray)) × Unit) × Unit)
abbrev M_ref15_May : Type := Unit
abbrev O_ref15_May : Type := Bool × Unit
def tree_ref15_May {α : Type} (x1 : Int) (x2 : Int) (x3 : List (Int × Int × ByteArray)) (K : O_ref15_May → Option α) : Option α :=
 cond (decide (x1 ≤ 4611686018427387904))
 (K (decide ((↑x3.length : Int) ≤ 256), ()))
 (K (false, ()))
noncomputable def F_ref15_May : A_ref15_May → M_ref15_May → Option O_ref15_May := fun a b => tree_ref15_May a.1.1 a.1.2.1 a.1.2.2.1 some
theorem n_ref15_May (x1 : Int) (x2 : Int) (x3 : List (Int × Int × ByteArray)) {α : Type} (K : O_ref15_May → Option α) : tree_ref15_May x1 x2 x3 K = (tree_ref15_May x1 x2 x3 some).bind K := by simp only [tree_ref15_May, bind_cond, bind_none', bind_some', bind_bind', bind_sum]
theorem Fe_ref15_May (x1 : Int) (x2 : Int) (x3 : List (Int × Int × ByteArray)) : F_ref15_May ((x1, (x2, (x3, ()))), ()) () = tree_ref15_May x1 x2 x3 some := rfl

/-! countersign/countersignref15.Entries -/
def args_ref15_Entries : SkL := (.cons (.leaf (.slc 70 (.cons (.int .u64) (.cons (.int .i64) (.cons .str .nil))))) (.cons (.leaf (.slc 70 (.cons (.int .u64) (.cons (.int .i64) (.cons .str .nil))))) .nil))
def mem_ref15_Entries : MSk := []
def outs_ref15_Entries : List OutC := [⟨(.leaf .bool), []⟩]
abbrev A_ref15_Entries : Type := ((List (Int × Int × ByteArray)) × (List (Int × Int × ByteArray)) × Unit)
abbrev M_ref15_Entries : Type := Unit
abbrev O_ref15_Entries : Type := Bool × Unit
def ltmps_ref15_Entries_4 : SkL := (.cons (.leaf (.slc 70 (.cons (.int .u64) (.cons (.int .i64) (.cons .str .nil))))) (.cons (.leaf (.slc 70 (.cons (.int .u64) (.cons (.int .i64) (.cons .str .nil))))) (dz 3 (.cons (.leaf (.int .i64)) (dz 20 .nil)))))
def lmem_ref15_Entries_4 : MSk := []
def louts_ref15_Entries_4 : List OutL := [⟨.ret, (dz 4 (.cons (.leaf .bool) (dz 21 .nil))), []⟩, ⟨(.exit 0), (dz 26 .nil), []⟩]
abbrev LT_ref15_Entries_4 : Type := ((List (Int × Int × ByteArray)) × (List (Int × Int × ByteArray)) × Int × Unit)
abbrev LM_ref15_Entries_4 : Type := Unit
abbrev LO_ref15_Entries_4 : Type := ((Bool × Unit) × Unit) ⊕ (Unit × Unit)
def ltree_ref15_Entries_4 {α : Type} (x1 : List (Int × Int × ByteArray)) (x2 : List (Int × Int × ByteArray)) (x3 : Int) (kn : LT_ref15_Entries_4 → LM_ref15_Entries_4 → Option α) (kr : LO_ref15_Entries_4 → Option α) : Option α :=
 cond (decide (x3 < (↑x1.length : Int)))
 (cond (decide (0 ≤ x3))
 (cond (decide (x3 < (↑x1.length : Int)))
 (cond (decide (0 ≤ x3))
 (cond (decide (x3 < (↑x2.length : Int)))
 (cond (Bool.true ^^ (x1.getD x3.toNat (0, 0, ByteArray.empty)).fst == (x2.getD x3.toNat (0, 0, ByteArray.empty)).fst && ((x1.getD x3.toNat (0, 0, ByteArray.empty)).snd.fst == (x2.getD x3.toNat (0, 0, ByteArray.empty)).snd.fst && ((x1.getD x3.toNat (0, 0, ByteArray.empty)).snd.snd.toList == (x2.getD x3.toNat (0, 0, ByteArray.empty)).snd.snd.toList && Bool.true)))
 (kr (.inl ((false, ()), ())))
 (kn (x1, (x2, (IntKind.i64.wrap (x3 + 1), ()))) ()))
 (none))
 (none))
 (none))
 (none))
 (kr (.inr ((), ())))
noncomputable def L_ref15_Entries_4 : LT_ref15_Entries_4 → LM_ref15_Entries_4 → Option LO_ref15_Entries_4 := fun x y => runL (fun p => (fun (a : LT_ref15_Entries_4) (b : LM_ref15_Entries_4) => ltree_ref15_Entries_4 a.1 a.2.1 a.2.2.1 (fun a' b' => some (.inl (a', b'))) fun r => some (.inr r)) p.1 p.2) (x, y)
theorem nl_ref15_Entries_4 (x1 : List (Int × Int × ByteArray)) (x2 : List (Int × Int × ByteArray)) (x3 : Int) {α : Type} (kn : LT_ref15_Entries_4 → LM_ref15_Entries_4 → Option α) (kr : LO_ref15_Entries_4 → Option α) : ltree_ref15_Entries_4 x1 x2 x3 kn kr = (ltree_ref15_Entries_4 x1 x2 x3 (fun a b => some (.inl (a, b))) fun r => some (.inr r)).bind (Sum.elim (fun p : LT_ref15_Entries_4 × LM_ref15_Entries_4 => kn p.1 p.2) kr) := by simp only [ltree_ref15_Entries_4, bind_cond, bind_none', bind_some', bind_bind', bind_sum, Sum.elim_inl, Sum.elim_inr]
theorem Le_ref15_Entries_4 (x1 : List (Int × Int × ByteArray)) (x2 : List (Int × Int × ByteArray)) (x3 : Int) : L_ref15_Entries_4 (x1, (x2, (x3, ()))) () = ltree_ref15_Entries_4 x1 x2 x3 L_ref15_Entries_4 some := runL_tree (A := LT_ref15_Entries_4) (B := LM_ref15_Entries_4) (R := LO_ref15_Entries_4) (fun a b kn kr => ltree_ref15_Entries_4 a.1 a.2.1 a.2.2.1 kn kr) (fun a b kn kr => nl_ref15_Entries_4 a.1 a.2.1 a.2.2.1 kn kr) (x1, (x2, (x3, ()))) ()
def tree_ref15_Entries (L_ref15_Entries_4 : LT_ref15_Entries_4 → LM_ref15_Entries_4 → Option LO_ref15_Entries_4) {α : Type} (x1 : List (Int × Int × ByteArray)) (x2 : List (Int × Int × ByteArray)) (K : O_ref15_Entries → Option α) : Option α :=
 cond ((↑x1.length : Int) != (↑x2.length : Int))
 (K (false, ()))
 ((L_ref15_Entries_4 (x1, x2, 0, ()) ()).bind fun r1 =>
 Sum.elim (fun u2 =>
 K (u2.fst.fst, ()))
 (fun u2 =>
 K (true, ())) (r1))
noncomputable def F_ref15_Entries : A_ref15_Entries → M_ref15_Entries → Option O_ref15_Entries := fun a b => tree_ref15_Entries L_ref15_Entries_4 a.1 a.2.1 some
theorem n_ref15_Entries (L_ref15_Entries_4 : LT_ref15_Entries_4 → LM_ref15_Entries_4 → Option LO_ref15_Entries_4) (x1 : List (Int × Int × ByteArray)) (x2 : List (Int × Int × ByteArray)) {α : Type} (K : O_ref15_Entries → Option α) : tree_ref15_Entries L_ref15_Entries_4 x1 x2 K = (tree_ref15_Entries L_ref15_Entries_4 x1 x2 some).bind K := by simp only [tree_ref15_Entries, bind_cond, bind_none', bind_some', bind_bind', bind_sum]
theorem Fe_ref15_Entries (x1 : List (Int × Int × ByteArray)) (x2 : List (Int × Int × ByteArray)) : F_ref15_Entries (x1, (x2, ())) () = tree_ref15_Entries L_ref15_Entries_4 x1 x2 some := rfl

end Go.Proofs.Ytjhaidbfahobmaa.S2
