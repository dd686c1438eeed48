/- Plain forms of the program's functions, by program. -/
import Derived.Test.YtljfdfghagiblaaGlaw06
set_option maxRecDepth 100000
set_option maxHeartbeats 0
set_option linter.unusedVariables false
set_option linter.unusedSimpArgs false
namespace Go.Proofs.Ytljfdfghagiblaa.S2
open Go
/-! countersign/countersignlaw06.MerkleBinds -/
def args_law06_MerkleBinds : SkL := (.cons (.agg (.cons (.leaf (.slc 41 (.cons (.int .u64) .nil))) (.cons (.leaf (.int .i64)) (.cons (.leaf (.slc 9 (.cons .str .nil))) .nil)))) (.cons (.agg (.cons (.leaf (.int .i64)) (.cons (.leaf .str) (.cons (.leaf (.slc 41 (.cons (.int .u64) .nil))) .nil)))) .nil))
def mem_law06_MerkleBinds : MSk := []
def outs_law06_MerkleBinds : List OutC := [⟨(.leaf .bool), []⟩]
abbrev A_law06_MerkleBinds : Type := ((List Int × Int × List ByteArray × Unit) × (Int × ByteArray × List Int × Unit) × Unit)
abbrev M_law06_MerkleBinds : Type := Unit
abbrev O_law06_MerkleBinds : Type := Bool × Unit
def ltmps_law06_MerkleBinds_3 : SkL := (dz 2 (.cons (.const (.ptr 1064 0 0)) (.cons (.const (.ptr 1096 0 0)) (.cons (.const .dead) (.cons (.const (.ptr 1513 0 0)) (.cons (.leaf (.int .i64)) (dz 114 .nil)))))))
def lmem_law06_MerkleBinds_3 : MSk := [(1064, .cells (.cons (.leaf (.slc 41 (.cons (.int .u64) .nil))) (.cons (.leaf (.int .i64)) (.cons (.leaf (.slc 9 (.cons .str .nil))) .nil)))), (1096, .cells (.cons (.leaf (.int .i64)) (.cons (.leaf .str) (.cons (.leaf (.slc 41 (.cons (.int .u64) .nil))) .nil)))), (1513, .cells (.cons (.leaf (.slc 41 (.cons (.int .u64) .nil))) (.cons (.leaf (.int .i64)) (.cons (.leaf .bool) (.cons (.const (.mp 1514)) (.cons (.const (.mp 1515)) (.cons (.const (.mp 1516)) (.cons (.const (.mp 1517)) (.cons (.const (.mp 1518)) (.cons (.const (.mp 1519)) (.cons (.const (.slw 1520)) .nil))))))))))), (1514, .map (.cons (.int .u64) .nil) false (.int .i64)), (1515, .map (.cons (.int .u64) .nil) false (.int .i64)), (1516, .map (.cons .str .nil) false (.int .u64)), (1517, .map (.cons (.int .u64) (.cons .str .nil)) true (.int .u64)), (1518, .map (.cons (.int .u64) (.cons (.int .u64) (.cons .str (.cons .str .nil)))) true (.int .u64)), (1519, .map (.cons (.int .u64) (.cons (.int .u64) (.cons (.int .u64) (.cons .str .nil)))) true (.int .i64)), (1520, .row 9 (.cons .str .nil))]
def louts_law06_MerkleBinds_3 : List OutL := [⟨(.exit 0), (dz 2 (.cons (.const (.ptr 1064 0 0)) (.cons (.const (.ptr 1096 0 0)) (.cons (.const .dead) (.cons (.const (.ptr 1513 0 0)) (dz 115 .nil)))))), [(1064, .cells (.cons (.leaf (.slc 41 (.cons (.int .u64) .nil))) (.cons (.leaf (.int .i64)) (.cons (.leaf (.slc 9 (.cons .str .nil))) .nil)))), (1096, .cells (.cons (.leaf (.int .i64)) (.cons (.leaf .str) (.cons (.leaf (.slc 41 (.cons (.int .u64) .nil))) .nil)))), (1513, .cells (.cons (.leaf (.slc 41 (.cons (.int .u64) .nil))) (.cons (.leaf (.int .i64)) (.cons (.leaf .bool) (.cons (.const (.mp 1514)) (.cons (.const (.mp 1515)) (.cons (.const (.mp 1516)) (.cons (.const (.mp 1517)) (.cons (.const (.mp 1518)) (.cons (.const (.mp 1519)) (.cons (.const (.slw 1520)) .nil))))))))))), (1514, .map (.cons (.int .u64) .nil) false (.int .i64)), (1515, .map (.cons (.int .u64) .nil) false (.int .i64)), (1516, .map (.cons .str .nil) false (.int .u64)), (1517, .map (.cons (.int .u64) (.cons .str .nil)) true (.int .u64)), (1518, .map (.cons (.int .u64) (.cons (.int .u64) (.cons .str (.cons .str .nil)))) true (.int .u64)), (1519, .map (.cons (.int .u64) (.cons (.int .u64) (.cons (.int .u64) (.cons .str .nil)))) true (.int .i64)), (1520, .row 9 (.cons .str .nil))]⟩]
abbrev LT_law06_MerkleBinds_3 : Type := (Int × Unit)
abbrev LM_law06_MerkleBinds_3 : Type := ((List Int × Int × List ByteArray × Unit) × (Int × ByteArray × List Int × Unit) × (List Int × Int × Bool × Unit) × (List (Int × Int)) × (List (Int × Int)) × (List (ByteArray × Int)) × (List ((Int × ByteArray) × Int)) × (List ((Int × Int × ByteArray × ByteArray) × Int)) × (List ((Int × Int × Int × ByteArray) × Int)) × List ByteArray × Unit)
abbrev LO_law06_MerkleBinds_3 : Type := Unit × ((List Int × Int × List ByteArray × Unit) × (Int × ByteArray × List Int × Unit) × (List Int × Int × Bool × Unit) × (List (Int × Int)) × (List (Int × Int)) × (List (ByteArray × Int)) × (List ((Int × ByteArray) × Int)) × (List ((Int × Int × ByteArray × ByteArray) × Int)) × (List ((Int × Int × Int × ByteArray) × Int)) × List ByteArray × Unit)
def ltree_law06_MerkleBinds_3 (F_ideal_Oracle_Meet : A_ideal_Oracle_Meet → M_ideal_Oracle_Meet → Option O_ideal_Oracle_Meet) {α : Type} (x1 : Int) (x2 : List Int) (x3 : Int) (x4 : List ByteArray) (x5 : Int) (x6 : ByteArray) (x7 : List Int) (x8 : List Int) (x9 : Int) (x10 : Bool) (x11 : List (Int × Int)) (x12 : List (Int × Int)) (x13 : List (ByteArray × Int)) (x14 : List ((Int × ByteArray) × Int)) (x15 : List ((Int × Int × ByteArray × ByteArray) × Int)) (x16 : List ((Int × Int × Int × ByteArray) × Int)) (x17 : List ByteArray) (kn : LT_law06_MerkleBinds_3 → LM_law06_MerkleBinds_3 → Option α) (kr : LO_law06_MerkleBinds_3 → Option α) : Option α :=
 cond (decide (x1 < (↑x7.length : Int)))
 (cond (decide (x1 < 9))
 (cond (decide (0 ≤ x1))
 (cond (decide (x1 < (↑x7.length : Int)))
 ((F_ideal_Oracle_Meet (x7.getD x1.toNat 0, ()) ((x8, x9, x10, ()), x11, x12, x13, x14, x15, x16, x17, ())).bind fun r1 =>
 kn (IntKind.i64.wrap (x1 + 1), ()) ((x2, (x3, (x4, ()))), ((x5, (x6, (x7, ()))), ((r1.snd.fst.fst, (r1.snd.fst.snd.fst, (r1.snd.fst.snd.snd.fst, ()))), (r1.snd.snd.fst, (r1.snd.snd.snd.fst, (r1.snd.snd.snd.snd.fst, (r1.snd.snd.snd.snd.snd.fst, (r1.snd.snd.snd.snd.snd.snd.fst, (r1.snd.snd.snd.snd.snd.snd.snd.fst, (r1.snd.snd.snd.snd.snd.snd.snd.snd.fst, ())))))))))))
 (none))
 (none))
 (kr ((), ((x2, (x3, (x4, ()))), ((x5, (x6, (x7, ()))), ((x8, (x9, (x10, ()))), (x11, (x12, (x13, (x14, (x15, (x16, (x17, ())))))))))))))
 (kr ((), ((x2, (x3, (x4, ()))), ((x5, (x6, (x7, ()))), ((x8, (x9, (x10, ()))), (x11, (x12, (x13, (x14, (x15, (x16, (x17, ()))))))))))))
noncomputable def L_law06_MerkleBinds_3 : LT_law06_MerkleBinds_3 → LM_law06_MerkleBinds_3 → Option LO_law06_MerkleBinds_3 := fun x y => runL (fun p => (fun (a : LT_law06_MerkleBinds_3) (b : LM_law06_MerkleBinds_3) => ltree_law06_MerkleBinds_3 F_ideal_Oracle_Meet a.1 b.1.1 b.1.2.1 b.1.2.2.1 b.2.1.1 b.2.1.2.1 b.2.1.2.2.1 b.2.2.1.1 b.2.2.1.2.1 b.2.2.1.2.2.1 b.2.2.2.1 b.2.2.2.2.1 b.2.2.2.2.2.1 b.2.2.2.2.2.2.1 b.2.2.2.2.2.2.2.1 b.2.2.2.2.2.2.2.2.1 b.2.2.2.2.2.2.2.2.2.1 (fun a' b' => some (.inl (a', b'))) fun r => some (.inr r)) p.1 p.2) (x, y)
theorem nl_law06_MerkleBinds_3 (F_ideal_Oracle_Meet : A_ideal_Oracle_Meet → M_ideal_Oracle_Meet → Option O_ideal_Oracle_Meet) (x1 : Int) (x2 : List Int) (x3 : Int) (x4 : List ByteArray) (x5 : Int) (x6 : ByteArray) (x7 : List Int) (x8 : List Int) (x9 : Int) (x10 : Bool) (x11 : List (Int × Int)) (x12 : List (Int × Int)) (x13 : List (ByteArray × Int)) (x14 : List ((Int × ByteArray) × Int)) (x15 : List ((Int × Int × ByteArray × ByteArray) × Int)) (x16 : List ((Int × Int × Int × ByteArray) × Int)) (x17 : List ByteArray) {α : Type} (kn : LT_law06_MerkleBinds_3 → LM_law06_MerkleBinds_3 → Option α) (kr : LO_law06_MerkleBinds_3 → Option α) : ltree_law06_MerkleBinds_3 F_ideal_Oracle_Meet x1 x2 x3 x4 x5 x6 x7 x8 x9 x10 x11 x12 x13 x14 x15 x16 x17 kn kr = (ltree_law06_MerkleBinds_3 F_ideal_Oracle_Meet x1 x2 x3 x4 x5 x6 x7 x8 x9 x10 x11 x12 x13 x14 x15 x16 x17 (fun a b => some (.inl (a, b))) fun r => some (.inr r)).bind (Sum.elim (fun p : LT_law06_MerkleBinds_3 × LM_law06_MerkleBinds_3 => kn p.1 p.2) kr) := by simp only [ltree_law06_MerkleBinds_3, bind_cond, bind_none', bind_some', bind_bind', bind_sum, Sum.elim_inl, Sum.elim_inr]
theorem Le_law06_MerkleBinds_3 (x1 : Int) (x2 : List Int) (x3 : Int) (x4 : List ByteArray) (x5 : Int) (x6 : ByteArray) (x7 : List Int) (x8 : List Int) (x9 : Int) (x10 : Bool) (x11 : List (Int × Int)) (x12 : List (Int × Int)) (x13 : List (ByteArray × Int)) (x14 : List ((Int × ByteArray) × Int)) (x15 : List ((Int × Int × ByteArray × ByteArray) × Int)) (x16 : List ((Int × Int × Int × ByteArray) × Int)) (x17 : List ByteArray) : L_law06_MerkleBinds_3 (x1, ()) ((x2, (x3, (x4, ()))), ((x5, (x6, (x7, ()))), ((x8, (x9, (x10, ()))), (x11, (x12, (x13, (x14, (x15, (x16, (x17, ())))))))))) = ltree_law06_MerkleBinds_3 F_ideal_Oracle_Meet x1 x2 x3 x4 x5 x6 x7 x8 x9 x10 x11 x12 x13 x14 x15 x16 x17 L_law06_MerkleBinds_3 some := runL_tree (A := LT_law06_MerkleBinds_3) (B := LM_law06_MerkleBinds_3) (R := LO_law06_MerkleBinds_3) (fun a b kn kr => ltree_law06_MerkleBinds_3 F_ideal_Oracle_Meet a.1 b.1.1 b.1.2.1 b.1.2.2.1 b.2.1.1 b.2.1.2.1 b.2.1.2.2.1 b.2.2.1.1 b.2.2.1.2.1 b.2.2.1.2.2.1 b.2.2.2.1 b.2.2.2.2.1 b.2.2.2.2.2.1 b.2.2.2.2.2.2.1 b.2.2.2.2.2.2.2.1 b.2.2.2.2.2.2.2.2.1 b.2.2.2.2.2.2.2.2.2.1 kn kr) (fun a b kn kr => nl_law06_MerkleBinds_3 F_ideal_Oracle_Meet a.1 b.1.1 b.1.2.1 b.1.2.2.1 b.2.1.1 b.2.1.2.1 b.2.1.2.2.1 b.2.2.1.1 b.2.2.1.2.1 b.2.2.1.2.2.1 b.2.2.2.1 b.2.2.2.2.1 b.2.2.2.2.2.1 b.2.2.2.2.2.2.1 b.2.2.2.2.2.2.2.1 b.2.2.2.2.2.2.2.2.1 b.2.2.2.2.2.2.2.2.2.1 kn kr) (x1, ()) ((x2, (x3, (x4, ()))), ((x5, (x6, (x7, ()))), ((x8, (x9, (x10, ()))), (x11, (x12, (x13, (x14, (x15, (x16, (x17, ()))))))))))
def tree_law06_MerkleBinds (F_ideal_New : A_ideal_New → M_ideal_New → Option O_ideal_New) (F_merkle_Build : A_merkle_Build → M_merkle_Build → Option O_merkle_Build) (F_law06_fixed : A_law06_fixed → M_law06_fixed → Option O_law06_fixed) (F_merkle_Path : A_merkle_Path → M_merkle_Path → Option O_merkle_Path) (F_merkle_Climb : A_merkle_Climb → M_merkle_Climb → Option O_merkle_Climb) (F_ideal_Oracle_Bad : A_ideal_Oracle_Bad → M_ideal_Oracle_Bad → Option O_ideal_Oracle_Bad) (F_ref01_Nums : A_ref01_Nums → M_ref01_Nums → Option O_ref01_Nums) (L_law06_MerkleBinds_3 : LT_law06_MerkleBinds_3 → LM_law06_MerkleBinds_3 → Option LO_law06_MerkleBinds_3) {α : Type} (x1 : List Int) (x2 : Int) (x3 : List ByteArray) (x4 : Int) (x5 : ByteArray) (x6 : List Int) (K : O_law06_MerkleBinds → Option α) : Option α :=
 (F_ideal_New (x1, ()) ()).bind fun r1 =>
 (L_law06_MerkleBinds_3 (0, ()) ((x1, x2, x3, ()), (x4, x5, x6, ()), (r1.snd.fst.fst, r1.snd.fst.snd.fst, r1.snd.fst.snd.snd.fst, ()), r1.snd.snd.fst, r1.snd.snd.snd.fst, r1.snd.snd.snd.snd.fst, r1.snd.snd.snd.snd.snd.fst, r1.snd.snd.snd.snd.snd.snd.fst, r1.snd.snd.snd.snd.snd.snd.snd.fst, r1.snd.snd.snd.snd.snd.snd.snd.snd.fst, ())).bind fun r2 =>
 (F_merkle_Build (r2.snd.fst.snd.fst, r2.snd.fst.snd.snd.fst, ()) ((r2.snd.snd.snd.fst.fst, r2.snd.snd.snd.fst.snd.fst, r2.snd.snd.snd.fst.snd.snd.fst, ()), r2.snd.snd.snd.snd.fst, r2.snd.snd.snd.snd.snd.fst, r2.snd.snd.snd.snd.snd.snd.fst, r2.snd.snd.snd.snd.snd.snd.snd.fst, r2.snd.snd.snd.snd.snd.snd.snd.snd.fst, r2.snd.snd.snd.snd.snd.snd.snd.snd.snd.fst, r2.snd.snd.snd.snd.snd.snd.snd.snd.snd.snd.fst, ())).bind fun r3 =>
 (F_law06_fixed () ()).bind fun r4 =>
 cond (!r4.fst)
 ((F_law06_fixed () ()).bind fun r5 =>
 K (r5.fst, ()))
 (cond (!r3.fst.snd.fst)
 ((F_law06_fixed () ()).bind fun r6 =>
 K (r6.fst, ()))
 (cond ((↑r2.snd.snd.fst.snd.snd.fst.length : Int) != r2.snd.fst.snd.fst)
 ((F_law06_fixed () ()).bind fun r7 =>
 K (r7.fst, ()))
 ((F_merkle_Path (r3.fst.fst, r2.snd.snd.fst.fst, ()) ()).bind fun r8 =>
 (F_merkle_Climb (r2.snd.snd.fst.snd.fst, r2.snd.snd.fst.fst, r2.snd.snd.fst.snd.snd.fst, ()) ((r3.snd.fst.fst, r3.snd.fst.snd.fst, r3.snd.fst.snd.snd.fst, ()), r3.snd.snd.fst, r3.snd.snd.snd.fst, r3.snd.snd.snd.snd.fst, r3.snd.snd.snd.snd.snd.fst, r3.snd.snd.snd.snd.snd.snd.fst, r3.snd.snd.snd.snd.snd.snd.snd.fst, r3.snd.snd.snd.snd.snd.snd.snd.snd.fst, ())).bind fun r9 =>
 cond (r8.fst.snd.fst != r9.fst.snd.fst)
 (K (r8.fst.snd.fst == r9.fst.snd.fst, ()))
 (cond (!r8.fst.snd.fst)
 (K (r8.fst.snd.fst == r9.fst.snd.fst, ()))
 ((F_ideal_Oracle_Bad () ((r9.snd.fst.fst, r9.snd.fst.snd.fst, r9.snd.fst.snd.snd.fst, ()), r9.snd.snd.fst, r9.snd.snd.snd.fst, r9.snd.snd.snd.snd.fst, r9.snd.snd.snd.snd.snd.fst, r9.snd.snd.snd.snd.snd.snd.fst, r9.snd.snd.snd.snd.snd.snd.snd.fst, r9.snd.snd.snd.snd.snd.snd.snd.snd.fst, ())).bind fun r10 =>
 cond (r10.fst)
 (K (true, ()))
 (cond (decide (r2.snd.snd.fst.fst < (↑r2.snd.fst.snd.snd.fst.length : Int)))
 (cond (decide (0 ≤ r2.snd.snd.fst.fst))
 (cond (decide (r2.snd.snd.fst.fst < (↑r2.snd.fst.snd.snd.fst.length : Int)))
 (cond (decide (0 ≤ r2.snd.fst.snd.fst))
 (cond (decide (r2.snd.fst.snd.fst < (↑r3.fst.fst.length : Int)))
 (cond (decide (0 < (↑(r3.fst.fst.getD r2.snd.fst.snd.fst.toNat []).length : Int)))
 (cond (r2.snd.snd.fst.snd.fst.toList == (r2.snd.fst.snd.snd.fst.getD r2.snd.snd.fst.fst.toNat ByteArray.empty).toList)
 ((F_ref01_Nums (r2.snd.snd.fst.snd.snd.fst, r8.fst.fst, ()) ()).bind fun r11 =>
 K ((r9.fst.fst == (r3.fst.fst.getD r2.snd.fst.snd.fst.toNat []).getD 0 0) == r11.fst, ()))
 (K ((r9.fst.fst == (r3.fst.fst.getD r2.snd.fst.snd.fst.toNat []).getD 0 0) == Bool.false, ())))
 (none))
 (none))
 (none))
 (none))
 (none))
 (cond (decide (0 ≤ r2.snd.fst.snd.fst))
 (cond (decide (r2.snd.fst.snd.fst < (↑r3.fst.fst.length : Int)))
 (cond (decide (0 < (↑(r3.fst.fst.getD r2.snd.fst.snd.fst.toNat []).length : Int)))
 (cond (r2.snd.snd.fst.snd.fst.toList == ByteArray.empty.toList)
 ((F_ref01_Nums (r2.snd.snd.fst.snd.snd.fst, r8.fst.fst, ()) ()).bind fun r12 =>
 K ((r9.fst.fst == (r3.fst.fst.getD r2.snd.fst.snd.fst.toNat []).getD 0 0) == r12.fst, ()))
 (K ((r9.fst.fst == (r3.fst.fst.getD r2.snd.fst.snd.fst.toNat []).getD 0 0) == Bool.false, ())))
 (none))
 (none))
 (none))))))))
noncomputable def F_law06_MerkleBinds : A_law06_MerkleBinds → M_law06_MerkleBinds → Option O_law06_MerkleBinds := fun a b => tree_law06_MerkleBinds F_ideal_New F_merkle_Build F_law06_fixed F_merkle_Path F_merkle_Climb F_ideal_Oracle_Bad F_ref01_Nums L_law06_MerkleBinds_3 a.1.1 a.1.2.1 a.1.2.2.1 a.2.1.1 a.2.1.2.1 a.2.1.2.2.1 some
theorem n_law06_MerkleBinds (F_ideal_New : A_ideal_New → M_ideal_New → Option O_ideal_New) (F_merkle_Build : A_merkle_Build → M_merkle_Build → Option O_merkle_Build) (F_law06_fixed : A_law06_fixed → M_law06_fixed → Option O_law06_fixed) (F_merkle_Path : A_merkle_Path → M_merkle_Path → Option O_merkle_Path) (F_merkle_Climb : A_merkle_Climb → M_merkle_Climb → Option O_merkle_Climb) (F_ideal_Oracle_Bad : A_ideal_Oracle_Bad → M_ideal_Oracle_Bad → Option O_ideal_Oracle_Bad) (F_ref01_Nums : A_ref01_Nums → M_ref01_Nums → Option O_ref01_Nums) (L_law06_MerkleBinds_3 : LT_law06_MerkleBinds_3 → LM_law06_MerkleBinds_3 → Option LO_law06_MerkleBinds_3) (x1 : List Int) (x2 : Int) (x3 : List ByteArray) (x4 : Int) (x5 : ByteArray) (x6 : List Int) {α : Type} (K : O_law06_MerkleBinds → Option α) : tree_law06_MerkleBinds F_ideal_New F_merkle_Build F_law06_fixed F_merkle_Path F_merkle_Climb F_ideal_Oracle_Bad F_ref01_Nums L_law06_MerkleBinds_3 x1 x2 x3 x4 x5 x6 K = (tree_law06_MerkleBinds F_ideal_New F_merkle_Build F_law06_fixed F_merkle_Path F_merkle_Climb F_ideal_Oracle_Bad F_ref01_Nums L_law06_MerkleBinds_3 x1 x2 x3 x4 x5 x6 some).bind K := by simp only [tree_law06_MerkleBinds, bind_cond, bind_none', bind_some', bind_bind', bind_sum]
theorem Fe_law06_MerkleBinds (x1 : List Int) (x2 : Int) (x3 : List ByteArray) (x4 : Int) (x5 : ByteArray) (x6 : List Int) : F_law06_MerkleBinds ((x1, (x2, (x3, ()))), ((x4, (x5, (x6, ()))), ())) () = tree_law06_MerkleBinds F_ideal_New F_merkle_Build F_law06_fixed F_merkle_Path F_merkle_Climb F_ideal_Oracle_Bad F_ref01_Nums L_law06_MerkleBinds_3 x1 x2 x3 x4 x5 x6 some := rfl

end Go.Proofs.Ytljfdfghagiblaa.S2
