/- Plain forms of the program's functions, by program. -/
import Derived.Test.YtjhaidbfahobmaaGrvote
set_option maxRecDepth 100000
set_option maxHeartbeats 0
set_option linter.unusedVariables false
set_option linter.unusedSimpArgs false
namespace Go.Proofs.Ytjhaidbfahobmaa.S2
open Go
/-! countersign/countersignref17.Send -/
def args_ref17_Send : SkL := (.cons (.agg (.cons (.leaf (.int .u64)) (.cons (.leaf (.int .u64)) (.cons (.leaf (.slc 70 (.cons (.int .u64) (.cons (.int .i64) (.cons .str .nil))))) .nil)))) (.cons (.leaf (.int .u64)) (.cons (.leaf (.int .i64)) .nil)))
def mem_ref17_Send : MSk := []
def outs_ref17_Send : List OutC := [⟨(.tup (.cons (.leaf (.int .u64)) (.cons (.leaf (.int .u64)) (.cons (.leaf (.slc 70 (.cons (.int .u64) (.cons (.int .i64) (.cons .str .nil))))) (.cons (.leaf .bool) .nil))))), []⟩]
abbrev A_ref17_Send : Type := ((Int × Int × (List (Int × Int × ByteArray)) × Unit) × Int × Int × Unit)
abbrev M_ref17_Send : Type := Unit
abbrev O_ref17_Send : Type := (Int × Int × (List (Int × Int × ByteArray)) × Bool × Unit) × Unit
def tree_ref17_Send (F_ref15_Last : A_ref15_Last → M_ref15_Last → Option O_ref15_Last) (F_ref15_Term : A_ref15_Term → M_ref15_Term → Option O_ref15_Term) (F_ref15_Slice : A_ref15_Slice → M_ref15_Slice → Option O_ref15_Slice) {α : Type} (x1 : Int) (x2 : Int) (x3 : List (Int × Int × ByteArray)) (x4 : Int) (x5 : Int) (K : O_ref17_Send → Option α) : Option α :=
 cond (decide (x4 ≤ x1))
 (K ((0, (0, ([], (false, ())))), ()))
 ((F_ref15_Last ((x1, x2, x3, ()), ()) ()).bind fun r1 =>
 cond (decide (IntKind.u64.wrap (x4 - 1) > r1.fst))
 (K ((0, (0, ([], (false, ())))), ()))
 ((F_ref15_Term ((x1, x2, x3, ()), IntKind.u64.wrap (x4 - 1), ()) ()).bind fun r2 =>
 (F_ref15_Slice ((x1, x2, x3, ()), x4, x5, ()) ()).bind fun r3 =>
 K ((IntKind.u64.wrap (x4 - 1), (r2.fst.fst, (r3.fst, (true, ())))), ())))
noncomputable def F_ref17_Send : A_ref17_Send → M_ref17_Send → Option O_ref17_Send := fun a b => tree_ref17_Send F_ref15_Last F_ref15_Term F_ref15_Slice a.1.1 a.1.2.1 a.1.2.2.1 a.2.1 a.2.2.1 some
theorem n_ref17_Send (F_ref15_Last : A_ref15_Last → M_ref15_Last → Option O_ref15_Last) (F_ref15_Term : A_ref15_Term → M_ref15_Term → Option O_ref15_Term) (F_ref15_Slice : A_ref15_Slice → M_ref15_Slice → Option O_ref15_Slice) (x1 : Int) (x2 : Int) (x3 : List (Int × Int × ByteArray)) (x4 : Int) (x5 : Int) {α : Type} (K : O_ref17_Send → Option α) : tree_ref17_Send F_ref15_Last F_ref15_Term F_ref15_Slice x1 x2 x3 x4 x5 K = (tree_ref17_Send F_ref15_Last F_ref15_Term F_ref15_Slice x1 x2 x3 x4 x5 some).bind K := by simp only [tree_ref17_Send, bind_cond, bind_none', bind_some', bind_bind', bind_sum]
theorem Fe_ref17_Send (x1 : Int) (x2 : Int) (x3 : List (Int × Int × ByteArray)) (x4 : Int) (x5 : Int) : F_ref17_Send ((x1, (x2, (x3, ()))), (x4, (x5, ()))) () = tree_ref17_Send F_ref15_Last F_ref15_Term F_ref15_Slice x1 x2 x3 x4 x5 some := rfl

/-! countersign/countersignref17.Back -/
def args_ref17_Back : SkL := (.cons (.leaf (.int .u64)) (.cons (.leaf (.int .u64)) .nil))
def mem_ref17_Back : MSk := []
def outs_ref17_Back : List OutC := [⟨(.leaf (.int .u64)), []⟩]
abbrev A_ref17_Back : Type := (Int × Int × Unit)
abbrev M_ref17_Back : Type := Unit
abbrev O_ref17_Back : Type := Int × Unit
def tree_ref17_Back {α : Type} (x1 : Int) (x2 : Int) (K : O_ref17_Back → Option α) : Option α :=
 cond (decide (x1 < 2))
 (K (1, ()))
 (cond (decide (x2 < IntKind.u64.wrap (x1 - 1)))
 (cond (decide (IntKind.u64.wrap (x2 + 1) < IntKind.u64.wrap (x1 - 1)))
 (K (IntKind.u64.wrap (x2 + 1), ()))
 (K (IntKind.u64.wrap (x1 - 1), ())))
 (K (IntKind.u64.wrap (x1 - 1), ())))
noncomputable def F_ref17_Back : A_ref17_Back → M_ref17_Back → Option O_ref17_Back := fun a b => tree_ref17_Back a.1 a.2.1 some
theorem n_ref17_Back (x1 : Int) (x2 : Int) {α : Type} (K : O_ref17_Back → Option α) : tree_ref17_Back x1 x2 K = (tree_ref17_Back x1 x2 some).bind K := by simp only [tree_ref17_Back, bind_cond, bind_none', bind_some', bind_bind', bind_sum]
theorem Fe_ref17_Back (x1 : Int) (x2 : Int) : F_ref17_Back (x1, (x2, ())) () = tree_ref17_Back x1 x2 some := rfl

/-! countersign/countersignref17.Commit -/
def args_ref17_Commit : SkL := (.cons (.agg (.cons (.leaf (.int .u64)) (.cons (.leaf (.int .u64)) (.cons (.leaf (.slc 70 (.cons (.int .u64) (.cons (.int .i64) (.cons .str .nil))))) .nil)))) (.cons (.leaf (.slc 22 (.cons (.int .u64) .nil))) (.cons (.leaf (.slc 43 (.cons (.int .u64) (.cons (.int .u64) (.cons (.int .u64) .nil))))) (.cons (.leaf (.int .u64)) (.cons (.leaf (.int .u64)) .nil)))))
def mem_ref17_Commit : MSk := []
def outs_ref17_Commit : List OutC := [⟨(.leaf (.int .u64)), []⟩]
abbrev A_ref17_Commit : Type := ((Int × Int × (List (Int × Int × ByteArray)) × Unit) × List Int × (List (Int × Int × Int)) × Int × Int × Unit)
abbrev M_ref17_Commit : Type := Unit
abbrev O_ref17_Commit : Type := Int × Unit
def ltmps_ref17_Commit_7 : SkL := (.cons (.const .dead) (.cons (.leaf (.slc 22 (.cons (.int .u64) .nil))) (.cons (.leaf (.slc 43 (.cons (.int .u64) (.cons (.int .u64) (.cons (.int .u64) .nil))))) (.cons (.leaf (.int .u64)) (.cons (.const .dead) (.cons (.const (.ptr 1160 0 0)) (dz 5 (.cons (.leaf (.int .u64)) (.cons (.leaf (.int .u64)) (.cons (.const (.slw 513)) (.cons (.leaf (.int .i64)) (dz 56 .nil))))))))))))
def lmem_ref17_Commit_7 : MSk := [(513, .row 22 (.cons (.int .u64) .nil)), (1160, .cells (.cons (.leaf (.int .u64)) (.cons (.leaf (.int .u64)) (.cons (.leaf (.slc 70 (.cons (.int .u64) (.cons (.int .i64) (.cons .str .nil))))) .nil))))]
def louts_ref17_Commit_7 : List OutL := [⟨(.exit 2), (.cons (.const .dead) (.cons (.leaf (.slc 22 (.cons (.int .u64) .nil))) (.cons (.leaf (.slc 43 (.cons (.int .u64) (.cons (.int .u64) (.cons (.int .u64) .nil))))) (.cons (.leaf (.int .u64)) (.cons (.const .dead) (.cons (.const (.ptr 1160 0 0)) (dz 5 (.cons (.leaf (.int .u64)) (.cons (.leaf (.int .u64)) (.cons (.const (.slw 513)) (dz 57 .nil))))))))))), [(513, .row 22 (.cons (.int .u64) .nil)), (1160, .cells (.cons (.leaf (.int .u64)) (.cons (.leaf (.int .u64)) (.cons (.leaf (.slc 70 (.cons (.int .u64) (.cons (.int .i64) (.cons .str .nil))))) .nil))))]⟩]
abbrev LT_ref17_Commit_7 : Type := (List Int × (List (Int × Int × Int)) × Int × Int × Int × Int × Unit)
abbrev LM_ref17_Commit_7 : Type := (List Int × (Int × Int × (List (Int × Int × ByteArray)) × Unit) × Unit)
abbrev LO_ref17_Commit_7 : Type := (List Int × (List (Int × Int × Int)) × Int × Int × Int × Unit) × (List Int × (Int × Int × (List (Int × Int × ByteArray)) × Unit) × Unit)
def ltree_ref17_Commit_7 {α : Type} (x1 : List Int) (x2 : List (Int × Int × Int)) (x3 : Int) (x4 : Int) (x5 : Int) (x6 : Int) (x7 : List Int) (x8 : Int) (x9 : Int) (x10 : List (Int × Int × ByteArray)) (kn : LT_ref17_Commit_7 → LM_ref17_Commit_7 → Option α) (kr : LO_ref17_Commit_7 → Option α) : Option α :=
 cond (decide (x6 < (↑x2.length : Int)))
 (cond (decide (0 ≤ x6))
 (cond (decide (x6 < (↑x2.length : Int)))
 (cond (decide ((x2.getD x6.toNat (0, 0, 0)).snd.snd ≥ x5))
 (cond (decide (0 ≤ x6))
 (cond (decide (x6 < (↑x2.length : Int)))
 (cond (decide ((x7.length + 1) * 8 ≤ 140737488355328))
 (kn (x1, (x2, (x3, (x4, (x5, (IntKind.i64.wrap (x6 + 1), ())))))) (x7 ++ ([] ++ [(x2.getD x6.toNat (0, 0, 0)).fst]), ((x8, (x9, (x10, ()))), ())))
 (none))
 (none))
 (none))
 (kn (x1, (x2, (x3, (x4, (x5, (IntKind.i64.wrap (x6 + 1), ())))))) (x7, ((x8, (x9, (x10, ()))), ()))))
 (none))
 (none))
 (kr ((x1, (x2, (x3, (x4, (x5, ()))))), (x7, ((x8, (x9, (x10, ()))), ()))))
noncomputable def L_ref17_Commit_7 : LT_ref17_Commit_7 → LM_ref17_Commit_7 → Option LO_ref17_Commit_7 := fun x y => runL (fun p => (fun (a : LT_ref17_Commit_7) (b : LM_ref17_Commit_7) => ltree_ref17_Commit_7 a.1 a.2.1 a.2.2.1 a.2.2.2.1 a.2.2.2.2.1 a.2.2.2.2.2.1 b.1 b.2.1.1 b.2.1.2.1 b.2.1.2.2.1 (fun a' b' => some (.inl (a', b'))) fun r => some (.inr r)) p.1 p.2) (x, y)
theorem nl_ref17_Commit_7 (x1 : List Int) (x2 : List (Int × Int × Int)) (x3 : Int) (x4 : Int) (x5 : Int) (x6 : Int) (x7 : List Int) (x8 : Int) (x9 : Int) (x10 : List (Int × Int × ByteArray)) {α : Type} (kn : LT_ref17_Commit_7 → LM_ref17_Commit_7 → Option α) (kr : LO_ref17_Commit_7 → Option α) : ltree_ref17_Commit_7 x1 x2 x3 x4 x5 x6 x7 x8 x9 x10 kn kr = (ltree_ref17_Commit_7 x1 x2 x3 x4 x5 x6 x7 x8 x9 x10 (fun a b => some (.inl (a, b))) fun r => some (.inr r)).bind (Sum.elim (fun p : LT_ref17_Commit_7 × LM_ref17_Commit_7 => kn p.1 p.2) kr) := by simp only [ltree_ref17_Commit_7, bind_cond, bind_none', bind_some', bind_bind', bind_sum, Sum.elim_inl, Sum.elim_inr]
theorem Le_ref17_Commit_7 (x1 : List Int) (x2 : List (Int × Int × Int)) (x3 : Int) (x4 : Int) (x5 : Int) (x6 : Int) (x7 : List Int) (x8 : Int) (x9 : Int) (x10 : List (Int × Int × ByteArray)) : L_ref17_Commit_7 (x1, (x2, (x3, (x4, (x5, (x6, ())))))) (x7, ((x8, (x9, (x10, ()))), ())) = ltree_ref17_Commit_7 x1 x2 x3 x4 x5 x6 x7 x8 x9 x10 L_ref17_Commit_7 some := runL_tree (A := LT_ref17_Commit_7) (B := LM_ref17_Commit_7) (R := LO_ref17_Commit_7) (fun a b kn kr => ltree_ref17_Commit_7 a.1 a.2.1 a.2.2.1 a.2.2.2.1 a.2.2.2.2.1 a.2.2.2.2.2.1 b.1 b.2.1.1 b.2.1.2.1 b.2.1.2.2.1 kn kr) (fun a b kn kr => nl_ref17_Commit_7 a.1 a.2.1 a.2.2.1 a.2.2.2.1 a.2.2.2.2.1 a.2.2.2.2.2.1 b.1 b.2.1.1 b.2.1.2.1 b.2.1.2.2.1 kn kr) (x1, (x2, (x3, (x4, (x5, (x6, ())))))) (x7, ((x8, (x9, (x10, ()))), ()))
def ltmps_ref17_Commit_3 : SkL := (.cons (.const .dead) (.cons (.leaf (.slc 22 (.cons (.int .u64) .nil))) (.cons (.leaf (.slc 43 (.cons (.int .u64) (.cons (.int .u64) (.cons (.int .u64) .nil))))) (.cons (.leaf (.int .u64)) (.cons (.const .dead) (.cons (.const (.ptr 1160 0 0)) (dz 5 (.cons (.leaf (.int .u64)) (.cons (.leaf (.int .u64)) (dz 58 .nil))))))))))
def lmem_ref17_Commit_3 : MSk := [(1160, .cells (.cons (.leaf (.int .u64)) (.cons (.leaf (.int .u64)) (.cons (.leaf (.slc 70 (.cons (.int .u64) (.cons (.int .i64) (.cons .str .nil))))) .nil))))]
def louts_ref17_Commit_3 : List OutL := [⟨(.exit 0), (dz 11 (.cons (.leaf (.int .u64)) (dz 59 .nil))), []⟩]
abbrev LT_ref17_Commit_3 : Type := (List Int × (List (Int × Int × Int)) × Int × Int × Int × Unit)
abbrev LM_ref17_Commit_3 : Type := ((Int × Int × (List (Int × Int × ByteArray)) × Unit) × Unit)
abbrev LO_ref17_Commit_3 : Type := (Int × Unit) × Unit
def ltree_ref17_Commit_3 (F_ref15_Last : A_ref15_Last → M_ref15_Last → Option O_ref15_Last) (F_ref15_Entry : A_ref15_Entry → M_ref15_Entry → Option O_ref15_Entry) (F_ref16_Most : A_ref16_Most → M_ref16_Most → Option O_ref16_Most) (L_ref17_Commit_7 : LT_ref17_Commit_7 → LM_ref17_Commit_7 → Option LO_ref17_Commit_7) {α : Type} (x1 : List Int) (x2 : List (Int × Int × Int)) (x3 : Int) (x4 : Int) (x5 : Int) (x6 : Int) (x7 : Int) (x8 : List (Int × Int × ByteArray)) (kn : LT_ref17_Commit_3 → LM_ref17_Commit_3 → Option α) (kr : LO_ref17_Commit_3 → Option α) : Option α :=
 (F_ref15_Last ((x6, x7, x8, ()), ()) ()).bind fun r1 =>
 cond (decide (x5 ≤ r1.fst))
 ((L_ref17_Commit_7 (x1, x2, x3, x4, x5, 0, ()) ([], (x6, x7, x8, ()), ())).bind fun r2 =>
 (F_ref15_Entry ((r2.snd.snd.fst.fst, r2.snd.snd.fst.snd.fst, r2.snd.snd.fst.snd.snd.fst, ()), r2.fst.snd.snd.snd.snd.fst, ()) ()).bind fun r3 =>
 cond (decide (r2.fst.snd.snd.snd.snd.fst > r2.fst.snd.snd.snd.fst))
 (cond (r3.fst.fst.fst == r2.fst.snd.snd.fst)
 ((F_ref16_Most (r2.fst.fst, r2.snd.fst, ()) ()).bind fun r4 =>
 cond (r4.fst)
 (kn (r2.fst.fst, (r2.fst.snd.fst, (r2.fst.snd.snd.fst, (r2.fst.snd.snd.snd.snd.fst, (IntKind.u64.wrap (r2.fst.snd.snd.snd.snd.fst + 1), ()))))) ((r2.snd.snd.fst.fst, (r2.snd.snd.fst.snd.fst, (r2.snd.snd.fst.snd.snd.fst, ()))), ()))
 (kn (r2.fst.fst, (r2.fst.snd.fst, (r2.fst.snd.snd.fst, (r2.fst.snd.snd.snd.fst, (IntKind.u64.wrap (r2.fst.snd.snd.snd.snd.fst + 1), ()))))) ((r2.snd.snd.fst.fst, (r2.snd.snd.fst.snd.fst, (r2.snd.snd.fst.snd.snd.fst, ()))), ())))
 (kn (r2.fst.fst, (r2.fst.snd.fst, (r2.fst.snd.snd.fst, (r2.fst.snd.snd.snd.fst, (IntKind.u64.wrap (r2.fst.snd.snd.snd.snd.fst + 1), ()))))) ((r2.snd.snd.fst.fst, (r2.snd.snd.fst.snd.fst, (r2.snd.snd.fst.snd.snd.fst, ()))), ())))
 (kn (r2.fst.fst, (r2.fst.snd.fst, (r2.fst.snd.snd.fst, (r2.fst.snd.snd.snd.fst, (IntKind.u64.wrap (r2.fst.snd.snd.snd.snd.fst + 1), ()))))) ((r2.snd.snd.fst.fst, (r2.snd.snd.fst.snd.fst, (r2.snd.snd.fst.snd.snd.fst, ()))), ())))
 (kr ((x4, ()), ()))
noncomputable def L_ref17_Commit_3 : LT_ref17_Commit_3 → LM_ref17_Commit_3 → Option LO_ref17_Commit_3 := fun x y => runL (fun p => (fun (a : LT_ref17_Commit_3) (b : LM_ref17_Commit_3) => ltree_ref17_Commit_3 F_ref15_Last F_ref15_Entry F_ref16_Most L_ref17_Commit_7 a.1 a.2.1 a.2.2.1 a.2.2.2.1 a.2.2.2.2.1 b.1.1 b.1.2.1 b.1.2.2.1 (fun a' b' => some (.inl (a', b'))) fun r => some (.inr r)) p.1 p.2) (x, y)
theorem nl_ref17_Commit_3 (F_ref15_Last : A_ref15_Last → M_ref15_Last → Option O_ref15_Last) (F_ref15_Entry : A_ref15_Entry → M_ref15_Entry → Option O_ref15_Entry) (F_ref16_Most : A_ref16_Most → M_ref16_Most → Option O_ref16_Most) (L_ref17_Commit_7 : LT_ref17_Commit_7 → LM_ref17_Commit_7 → Option LO_ref17_Commit_7) (x1 : List Int) (x2 : List (Int × Int × Int)) (x3 : Int) (x4 : Int) (x5 : Int) (x6 : Int) (x7 : Int) (x8 : List (Int × Int × ByteArray)) {α : Type} (kn : LT_ref17_Commit_3 → LM_ref17_Commit_3 → Option α) (kr : LO_ref17_Commit_3 → Option α) : ltree_ref17_Commit_3 F_ref15_Last F_ref15_Entry F_ref16_Most L_ref17_Commit_7 x1 x2 x3 x4 x5 x6 x7 x8 kn kr = (ltree_ref17_Commit_3 F_ref15_Last F_ref15_Entry F_ref16_Most L_ref17_Commit_7 x1 x2 x3 x4 x5 x6 x7 x8 (fun a b => some (.inl (a, b))) fun r => some (.inr r)).bind (Sum.elim (fun p : LT_ref17_Commit_3 × LM_ref17_Commit_3 => kn p.1 p.2) kr) := by simp only [ltree_ref17_Commit_3, bind_cond, bind_none', bind_some', bind_bind', bind_sum, Sum.elim_inl, Sum.elim_inr]
theorem Le_ref17_Commit_3 (x1 : List Int) (x2 : List (Int × Int × Int)) (x3 : Int) (x4 : Int) (x5 : Int) (x6 : Int) (x7 : Int) (x8 : List (Int × Int × ByteArray)) : L_ref17_Commit_3 (x1, (x2, (x3, (x4, (x5, ()))))) ((x6, (x7, (x8, ()))), ()) = ltree_ref17_Commit_3 F_ref15_Last F_ref15_Entry F_ref16_Most L_ref17_Commit_7 x1 x2 x3 x4 x5 x6 x7 x8 L_ref17_Commit_3 some := runL_tree (A := LT_ref17_Commit_3) (B := LM_ref17_Commit_3) (R := LO_ref17_Commit_3) (fun a b kn kr => ltree_ref17_Commit_3 F_ref15_Last F_ref15_Entry F_ref16_Most L_ref17_Commit_7 a.1 a.2.1 a.2.2.1 a.2.2.2.1 a.2.2.2.2.1 b.1.1 b.1.2.1 b.1.2.2.1 kn kr) (fun a b kn kr => nl_ref17_Commit_3 F_ref15_Last F_ref15_Entry F_ref16_Most L_ref17_Commit_7 a.1 a.2.1 a.2.2.1 a.2.2.2.1 a.2.2.2.2.1 b.1.1 b.1.2.1 b.1.2.2.1 kn kr) (x1, (x2, (x3, (x4, (x5, ()))))) ((x6, (x7, (x8, ()))), ())
def tree_ref17_Commit (L_ref17_Commit_3 : LT_ref17_Commit_3 → LM_ref17_Commit_3 → Option LO_ref17_Commit_3) {α : Type} (x1 : Int) (x2 : Int) (x3 : List (Int × Int × ByteArray)) (x4 : List Int) (x5 : List (Int × Int × Int)) (x6 : Int) (x7 : Int) (K : O_ref17_Commit → Option α) : Option α :=
 (L_ref17_Commit_3 (x4, x5, x6, x7, IntKind.u64.wrap (x1 + 1), ()) ((x1, x2, x3, ()), ())).bind fun r1 =>
 K (r1.fst.fst, ())
noncomputable def F_ref17_Commit : A_ref17_Commit → M_ref17_Commit → Option O_ref17_Commit := fun a b => tree_ref17_Commit L_ref17_Commit_3 a.1.1 a.1.2.1 a.1.2.2.1 a.2.1 a.2.2.1 a.2.2.2.1 a.2.2.2.2.1 some
theorem n_ref17_Commit (L_ref17_Commit_3 : LT_ref17_Commit_3 → LM_ref17_Commit_3 → Option LO_ref17_Commit_3) (x1 : Int) (x2 : Int) (x3 : List (Int × Int × ByteArray)) (x4 : List Int) (x5 : List (Int × Int × Int)) (x6 : Int) (x7 : Int) {α : Type} (K : O_ref17_Commit → Option α) : tree_ref17_Commit L_ref17_Commit_3 x1 x2 x3 x4 x5 x6 x7 K = (tree_ref17_Commit L_ref17_Commit_3 x1 x2 x3 x4 x5 x6 x7 some).bind K := by simp only [tree_ref17_Commit, bind_cond, bind_none', bind_some', bind_bind', bind_sum]
theorem Fe_ref17_Commit (x1 : Int) (x2 : Int) (x3 : List (Int × Int × ByteArray)) (x4 : List Int) (x5 : List (Int × Int × Int)) (x6 : Int) (x7 : Int) : F_ref17_Commit ((x1, (x2, (x3, ()))), (x4, (x5, (x6, (x7, ()))))) () = tree_ref17_Commit L_ref17_Commit_3 x1 x2 x3 x4 x5 x6 x7 some := rfl

end Go.Proofs.Ytjhaidbfahobmaa.S2
