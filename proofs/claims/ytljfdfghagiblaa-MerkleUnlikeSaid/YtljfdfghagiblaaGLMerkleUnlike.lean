/- Plain forms of the program's functions, by program. -/
import Derived.Test.YtljfdfghagiblaaGlaw06
set_option maxRecDepth 100000
set_option maxHeartbeats 0
set_option linter.unusedVariables false
set_option linter.unusedSimpArgs false
namespace Go.Proofs.Ytljfdfghagiblaa.S2
open Go
/-! countersign/countersignlaw06.MerkleUnlike -/
def args_law06_MerkleUnlike : SkL := (.cons (.agg (.cons (.leaf (.slc 41 (.cons (.int .u64) .nil))) (.cons (.leaf (.int .i64)) (.cons (.leaf (.slc 9 (.cons .str .nil))) .nil)))) (.cons (.leaf (.slc 9 (.cons .str .nil))) .nil))
def mem_law06_MerkleUnlike : MSk := []
def outs_law06_MerkleUnlike : List OutC := [⟨(.leaf .bool), []⟩]
abbrev A_law06_MerkleUnlike : Type := ((List Int × Int × List ByteArray × Unit) × List ByteArray × Unit)
abbrev M_law06_MerkleUnlike : Type := Unit
abbrev O_law06_MerkleUnlike : Type := Bool × Unit
def ltmps_law06_MerkleUnlike_8 : SkL := (.cons (.const .dead) (.cons (.leaf (.slc 9 (.cons .str .nil))) (.cons (.const (.ptr 1064 0 0)) (dz 3 (.cons (.leaf (.slc 22 (.cons (.slc 41 (.cons (.int .u64) .nil)) .nil))) (.cons (.const .dead) (.cons (.leaf (.slc 22 (.cons (.slc 41 (.cons (.int .u64) .nil)) .nil))) (.cons (.const .dead) (.cons (.leaf .bool) (.cons (.leaf (.int .i64)) (dz 91 .nil)))))))))))
def lmem_law06_MerkleUnlike_8 : MSk := [(1064, .cells (.cons (.leaf (.slc 41 (.cons (.int .u64) .nil))) (.cons (.leaf (.int .i64)) (.cons (.leaf (.slc 9 (.cons .str .nil))) .nil)))), (1513, .cells (.cons (.leaf (.slc 41 (.cons (.int .u64) .nil))) (.cons (.leaf (.int .i64)) (.cons (.leaf .bool) (.cons (.const (.mp 1514)) (.cons (.const (.mp 1515)) (.cons (.const (.mp 1516)) (.cons (.const (.mp 1517)) (.cons (.const (.mp 1518)) (.cons (.const (.mp 1519)) (.cons (.const (.slw 1520)) .nil))))))))))), (1514, .map (.cons (.int .u64) .nil) false (.int .i64)), (1515, .map (.cons (.int .u64) .nil) false (.int .i64)), (1516, .map (.cons .str .nil) false (.int .u64)), (1517, .map (.cons (.int .u64) (.cons .str .nil)) true (.int .u64)), (1518, .map (.cons (.int .u64) (.cons (.int .u64) (.cons .str (.cons .str .nil)))) true (.int .u64)), (1519, .map (.cons (.int .u64) (.cons (.int .u64) (.cons (.int .u64) (.cons .str .nil)))) true (.int .i64)), (1520, .row 9 (.cons .str .nil))]
def louts_law06_MerkleUnlike_8 : List OutL := [⟨(.exit 0), (dz 2 (.cons (.const (.ptr 1064 0 0)) (dz 3 (.cons (.leaf (.slc 22 (.cons (.slc 41 (.cons (.int .u64) .nil)) .nil))) (.cons (.const .dead) (.cons (.leaf (.slc 22 (.cons (.slc 41 (.cons (.int .u64) .nil)) .nil))) (.cons (.const .dead) (.cons (.leaf .bool) (dz 92 .nil))))))))), [(1064, .cells (.cons (.leaf (.slc 41 (.cons (.int .u64) .nil))) (.cons (.leaf (.int .i64)) (.cons (.leaf (.slc 9 (.cons .str .nil))) .nil))))]⟩]
abbrev LT_law06_MerkleUnlike_8 : Type := (List ByteArray × List (List Int) × List (List Int) × Bool × Int × Unit)
abbrev LM_law06_MerkleUnlike_8 : Type := ((List Int × Int × List ByteArray × Unit) × (List Int × Int × Bool × Unit) × (List (Int × Int)) × (List (Int × Int)) × (List (ByteArray × Int)) × (List ((Int × ByteArray) × Int)) × (List ((Int × Int × ByteArray × ByteArray) × Int)) × (List ((Int × Int × Int × ByteArray) × Int)) × List ByteArray × Unit)
abbrev LO_law06_MerkleUnlike_8 : Type := (List (List Int) × List (List Int) × Bool × Unit) × ((List Int × Int × List ByteArray × Unit) × Unit)
def ltree_law06_MerkleUnlike_8 {α : Type} (x1 : List ByteArray) (x2 : List (List Int)) (x3 : List (List Int)) (x4 : Bool) (x5 : Int) (x6 : List Int) (x7 : Int) (x8 : List ByteArray) (x9 : List Int) (x10 : Int) (x11 : Bool) (x12 : List (Int × Int)) (x13 : List (Int × Int)) (x14 : List (ByteArray × Int)) (x15 : List ((Int × ByteArray) × Int)) (x16 : List ((Int × Int × ByteArray × ByteArray) × Int)) (x17 : List ((Int × Int × Int × ByteArray) × Int)) (x18 : List ByteArray) (kn : LT_law06_MerkleUnlike_8 → LM_law06_MerkleUnlike_8 → Option α) (kr : LO_law06_MerkleUnlike_8 → Option α) : Option α :=
 cond (decide (x5 < (↑x1.length : Int)))
 (cond (decide (x5 < (↑x1.length : Int)))
 (cond (decide (0 ≤ x5))
 (cond (decide (x5 < (↑x1.length : Int)))
 (cond (decide (x5 < (↑x8.length : Int)))
 (cond (decide (0 ≤ x5))
 (cond (decide (x5 < (↑x8.length : Int)))
 (cond (x4)
 (kn (x1, (x2, (x3, ((x1.getD x5.toNat ByteArray.empty).toList == (x8.getD x5.toNat ByteArray.empty).toList, (IntKind.i64.wrap (x5 + 1), ()))))) ((x6, (x7, (x8, ()))), ((x9, (x10, (x11, ()))), (x12, (x13, (x14, (x15, (x16, (x17, (x18, ()))))))))))
 (kn (x1, (x2, (x3, (false, (IntKind.i64.wrap (x5 + 1), ()))))) ((x6, (x7, (x8, ()))), ((x9, (x10, (x11, ()))), (x12, (x13, (x14, (x15, (x16, (x17, (x18, ())))))))))))
 (none))
 (none))
 (cond (x4)
 (kn (x1, (x2, (x3, ((x1.getD x5.toNat ByteArray.empty).toList == ByteArray.empty.toList, (IntKind.i64.wrap (x5 + 1), ()))))) ((x6, (x7, (x8, ()))), ((x9, (x10, (x11, ()))), (x12, (x13, (x14, (x15, (x16, (x17, (x18, ()))))))))))
 (kn (x1, (x2, (x3, (false, (IntKind.i64.wrap (x5 + 1), ()))))) ((x6, (x7, (x8, ()))), ((x9, (x10, (x11, ()))), (x12, (x13, (x14, (x15, (x16, (x17, (x18, ()))))))))))))
 (none))
 (none))
 (cond (decide (x5 < (↑x8.length : Int)))
 (cond (decide (0 ≤ x5))
 (cond (decide (x5 < (↑x8.length : Int)))
 (cond (x4)
 (kn (x1, (x2, (x3, (ByteArray.empty.toList == (x8.getD x5.toNat ByteArray.empty).toList, (IntKind.i64.wrap (x5 + 1), ()))))) ((x6, (x7, (x8, ()))), ((x9, (x10, (x11, ()))), (x12, (x13, (x14, (x15, (x16, (x17, (x18, ()))))))))))
 (kn (x1, (x2, (x3, (false, (IntKind.i64.wrap (x5 + 1), ()))))) ((x6, (x7, (x8, ()))), ((x9, (x10, (x11, ()))), (x12, (x13, (x14, (x15, (x16, (x17, (x18, ())))))))))))
 (none))
 (none))
 (cond (x4)
 (kn (x1, (x2, (x3, (true, (IntKind.i64.wrap (x5 + 1), ()))))) ((x6, (x7, (x8, ()))), ((x9, (x10, (x11, ()))), (x12, (x13, (x14, (x15, (x16, (x17, (x18, ()))))))))))
 (kn (x1, (x2, (x3, (false, (IntKind.i64.wrap (x5 + 1), ()))))) ((x6, (x7, (x8, ()))), ((x9, (x10, (x11, ()))), (x12, (x13, (x14, (x15, (x16, (x17, (x18, ())))))))))))))
 (cond (decide (x5 < (↑x8.length : Int)))
 (cond (decide (x5 < (↑x1.length : Int)))
 (cond (decide (0 ≤ x5))
 (cond (decide (x5 < (↑x1.length : Int)))
 (cond (decide (x5 < (↑x8.length : Int)))
 (cond (decide (0 ≤ x5))
 (cond (decide (x5 < (↑x8.length : Int)))
 (cond (x4)
 (kn (x1, (x2, (x3, ((x1.getD x5.toNat ByteArray.empty).toList == (x8.getD x5.toNat ByteArray.empty).toList, (IntKind.i64.wrap (x5 + 1), ()))))) ((x6, (x7, (x8, ()))), ((x9, (x10, (x11, ()))), (x12, (x13, (x14, (x15, (x16, (x17, (x18, ()))))))))))
 (kn (x1, (x2, (x3, (false, (IntKind.i64.wrap (x5 + 1), ()))))) ((x6, (x7, (x8, ()))), ((x9, (x10, (x11, ()))), (x12, (x13, (x14, (x15, (x16, (x17, (x18, ())))))))))))
 (none))
 (none))
 (cond (x4)
 (kn (x1, (x2, (x3, ((x1.getD x5.toNat ByteArray.empty).toList == ByteArray.empty.toList, (IntKind.i64.wrap (x5 + 1), ()))))) ((x6, (x7, (x8, ()))), ((x9, (x10, (x11, ()))), (x12, (x13, (x14, (x15, (x16, (x17, (x18, ()))))))))))
 (kn (x1, (x2, (x3, (false, (IntKind.i64.wrap (x5 + 1), ()))))) ((x6, (x7, (x8, ()))), ((x9, (x10, (x11, ()))), (x12, (x13, (x14, (x15, (x16, (x17, (x18, ()))))))))))))
 (none))
 (none))
 (cond (decide (x5 < (↑x8.length : Int)))
 (cond (decide (0 ≤ x5))
 (cond (decide (x5 < (↑x8.length : Int)))
 (cond (x4)
 (kn (x1, (x2, (x3, (ByteArray.empty.toList == (x8.getD x5.toNat ByteArray.empty).toList, (IntKind.i64.wrap (x5 + 1), ()))))) ((x6, (x7, (x8, ()))), ((x9, (x10, (x11, ()))), (x12, (x13, (x14, (x15, (x16, (x17, (x18, ()))))))))))
 (kn (x1, (x2, (x3, (false, (IntKind.i64.wrap (x5 + 1), ()))))) ((x6, (x7, (x8, ()))), ((x9, (x10, (x11, ()))), (x12, (x13, (x14, (x15, (x16, (x17, (x18, ())))))))))))
 (none))
 (none))
 (cond (x4)
 (kn (x1, (x2, (x3, (true, (IntKind.i64.wrap (x5 + 1), ()))))) ((x6, (x7, (x8, ()))), ((x9, (x10, (x11, ()))), (x12, (x13, (x14, (x15, (x16, (x17, (x18, ()))))))))))
 (kn (x1, (x2, (x3, (false, (IntKind.i64.wrap (x5 + 1), ()))))) ((x6, (x7, (x8, ()))), ((x9, (x10, (x11, ()))), (x12, (x13, (x14, (x15, (x16, (x17, (x18, ())))))))))))))
 (kr ((x2, (x3, (x4, ()))), ((x6, (x7, (x8, ()))), ()))))
noncomputable def L_law06_MerkleUnlike_8 : LT_law06_MerkleUnlike_8 → LM_law06_MerkleUnlike_8 → Option LO_law06_MerkleUnlike_8 := fun x y => runL (fun p => (fun (a : LT_law06_MerkleUnlike_8) (b : LM_law06_MerkleUnlike_8) => ltree_law06_MerkleUnlike_8 a.1 a.2.1 a.2.2.1 a.2.2.2.1 a.2.2.2.2.1 b.1.1 b.1.2.1 b.1.2.2.1 b.2.1.1 b.2.1.2.1 b.2.1.2.2.1 b.2.2.1 b.2.2.2.1 b.2.2.2.2.1 b.2.2.2.2.2.1 b.2.2.2.2.2.2.1 b.2.2.2.2.2.2.2.1 b.2.2.2.2.2.2.2.2.1 (fun a' b' => some (.inl (a', b'))) fun r => some (.inr r)) p.1 p.2) (x, y)
theorem nl_law06_MerkleUnlike_8 (x1 : List ByteArray) (x2 : List (List Int)) (x3 : List (List Int)) (x4 : Bool) (x5 : Int) (x6 : List Int) (x7 : Int) (x8 : List ByteArray) (x9 : List Int) (x10 : Int) (x11 : Bool) (x12 : List (Int × Int)) (x13 : List (Int × Int)) (x14 : List (ByteArray × Int)) (x15 : List ((Int × ByteArray) × Int)) (x16 : List ((Int × Int × ByteArray × ByteArray) × Int)) (x17 : List ((Int × Int × Int × ByteArray) × Int)) (x18 : List ByteArray) {α : Type} (kn : LT_law06_MerkleUnlike_8 → LM_law06_MerkleUnlike_8 → Option α) (kr : LO_law06_MerkleUnlike_8 → Option α) : ltree_law06_MerkleUnlike_8 x1 x2 x3 x4 x5 x6 x7 x8 x9 x10 x11 x12 x13 x14 x15 x16 x17 x18 kn kr = (ltree_law06_MerkleUnlike_8 x1 x2 x3 x4 x5 x6 x7 x8 x9 x10 x11 x12 x13 x14 x15 x16 x17 x18 (fun a b => some (.inl (a, b))) fun r => some (.inr r)).bind (Sum.elim (fun p : LT_law06_MerkleUnlike_8 × LM_law06_MerkleUnlike_8 => kn p.1 p.2) kr) := by simp only [ltree_law06_MerkleUnlike_8, bind_cond, bind_none', bind_some', bind_bind', bind_sum, Sum.elim_inl, Sum.elim_inr]
theorem Le_law06_MerkleUnlike_8 (x1 : List ByteArray) (x2 : List (List Int)) (x3 : List (List Int)) (x4 : Bool) (x5 : Int) (x6 : List Int) (x7 : Int) (x8 : List ByteArray) (x9 : List Int) (x10 : Int) (x11 : Bool) (x12 : List (Int × Int)) (x13 : List (Int × Int)) (x14 : List (ByteArray × Int)) (x15 : List ((Int × ByteArray) × Int)) (x16 : List ((Int × Int × ByteArray × ByteArray) × Int)) (x17 : List ((Int × Int × Int × ByteArray) × Int)) (x18 : List ByteArray) : L_law06_MerkleUnlike_8 (x1, (x2, (x3, (x4, (x5, ()))))) ((x6, (x7, (x8, ()))), ((x9, (x10, (x11, ()))), (x12, (x13, (x14, (x15, (x16, (x17, (x18, ()))))))))) = ltree_law06_MerkleUnlike_8 x1 x2 x3 x4 x5 x6 x7 x8 x9 x10 x11 x12 x13 x14 x15 x16 x17 x18 L_law06_MerkleUnlike_8 some := runL_tree (A := LT_law06_MerkleUnlike_8) (B := LM_law06_MerkleUnlike_8) (R := LO_law06_MerkleUnlike_8) (fun a b kn kr => ltree_law06_MerkleUnlike_8 a.1 a.2.1 a.2.2.1 a.2.2.2.1 a.2.2.2.2.1 b.1.1 b.1.2.1 b.1.2.2.1 b.2.1.1 b.2.1.2.1 b.2.1.2.2.1 b.2.2.1 b.2.2.2.1 b.2.2.2.2.1 b.2.2.2.2.2.1 b.2.2.2.2.2.2.1 b.2.2.2.2.2.2.2.1 b.2.2.2.2.2.2.2.2.1 kn kr) (fun a b kn kr => nl_law06_MerkleUnlike_8 a.1 a.2.1 a.2.2.1 a.2.2.2.1 a.2.2.2.2.1 b.1.1 b.1.2.1 b.1.2.2.1 b.2.1.1 b.2.1.2.1 b.2.1.2.2.1 b.2.2.1 b.2.2.2.1 b.2.2.2.2.1 b.2.2.2.2.2.1 b.2.2.2.2.2.2.1 b.2.2.2.2.2.2.2.1 b.2.2.2.2.2.2.2.2.1 kn kr) (x1, (x2, (x3, (x4, (x5, ()))))) ((x6, (x7, (x8, ()))), ((x9, (x10, (x11, ()))), (x12, (x13, (x14, (x15, (x16, (x17, (x18, ())))))))))
def tree_law06_MerkleUnlike (F_ideal_New : A_ideal_New → M_ideal_New → Option O_ideal_New) (F_merkle_Build : A_merkle_Build → M_merkle_Build → Option O_merkle_Build) (F_law06_fixed : A_law06_fixed → M_law06_fixed → Option O_law06_fixed) (F_ideal_Oracle_Bad : A_ideal_Oracle_Bad → M_ideal_Oracle_Bad → Option O_ideal_Oracle_Bad) (L_law06_MerkleUnlike_8 : LT_law06_MerkleUnlike_8 → LM_law06_MerkleUnlike_8 → Option LO_law06_MerkleUnlike_8) {α : Type} (x1 : List Int) (x2 : Int) (x3 : List ByteArray) (x4 : List ByteArray) (K : O_law06_MerkleUnlike → Option α) : Option α :=
 (F_ideal_New (x1, ()) ()).bind fun r1 =>
 (F_merkle_Build (x2, x3, ()) ((r1.snd.fst.fst, r1.snd.fst.snd.fst, r1.snd.fst.snd.snd.fst, ()), r1.snd.snd.fst, r1.snd.snd.snd.fst, r1.snd.snd.snd.snd.fst, r1.snd.snd.snd.snd.snd.fst, r1.snd.snd.snd.snd.snd.snd.fst, r1.snd.snd.snd.snd.snd.snd.snd.fst, r1.snd.snd.snd.snd.snd.snd.snd.snd.fst, ())).bind fun r2 =>
 (F_merkle_Build (x2, x4, ()) ((r2.snd.fst.fst, r2.snd.fst.snd.fst, r2.snd.fst.snd.snd.fst, ()), r2.snd.snd.fst, r2.snd.snd.snd.fst, r2.snd.snd.snd.snd.fst, r2.snd.snd.snd.snd.snd.fst, r2.snd.snd.snd.snd.snd.snd.fst, r2.snd.snd.snd.snd.snd.snd.snd.fst, r2.snd.snd.snd.snd.snd.snd.snd.snd.fst, ())).bind fun r3 =>
 (F_law06_fixed () ()).bind fun r4 =>
 cond (!r4.fst)
 ((F_law06_fixed () ()).bind fun r5 =>
 K (r5.fst, ()))
 (cond (!r2.fst.snd.fst)
 ((F_law06_fixed () ()).bind fun r6 =>
 K (r6.fst, ()))
 (cond (!r3.fst.snd.fst)
 ((F_law06_fixed () ()).bind fun r7 =>
 K (r7.fst, ()))
 ((F_ideal_Oracle_Bad () ((r3.snd.fst.fst, r3.snd.fst.snd.fst, r3.snd.fst.snd.snd.fst, ()), r3.snd.snd.fst, r3.snd.snd.snd.fst, r3.snd.snd.snd.snd.fst, r3.snd.snd.snd.snd.snd.fst, r3.snd.snd.snd.snd.snd.snd.fst, r3.snd.snd.snd.snd.snd.snd.snd.fst, r3.snd.snd.snd.snd.snd.snd.snd.snd.fst, ())).bind fun r8 =>
 cond (r8.fst)
 ((F_law06_fixed () ()).bind fun r9 =>
 K (r9.fst, ()))
 ((L_law06_MerkleUnlike_8 (x4, r2.fst.fst, r3.fst.fst, Bool.true, 0, ()) ((x1, x2, x3, ()), (r3.snd.fst.fst, r3.snd.fst.snd.fst, r3.snd.fst.snd.snd.fst, ()), r3.snd.snd.fst, r3.snd.snd.snd.fst, r3.snd.snd.snd.snd.fst, r3.snd.snd.snd.snd.snd.fst, r3.snd.snd.snd.snd.snd.snd.fst, r3.snd.snd.snd.snd.snd.snd.snd.fst, r3.snd.snd.snd.snd.snd.snd.snd.snd.fst, ())).bind fun r10 =>
 cond (decide (0 ≤ r10.snd.fst.snd.fst))
 (cond (decide (r10.snd.fst.snd.fst < (↑r10.fst.fst.length : Int)))
 (cond (decide (0 < (↑(r10.fst.fst.getD r10.snd.fst.snd.fst.toNat []).length : Int)))
 (cond (decide (0 ≤ r10.snd.fst.snd.fst))
 (cond (decide (r10.snd.fst.snd.fst < (↑r10.fst.snd.fst.length : Int)))
 (cond (decide (0 < (↑(r10.fst.snd.fst.getD r10.snd.fst.snd.fst.toNat []).length : Int)))
 (K (((r10.fst.fst.getD r10.snd.fst.snd.fst.toNat []).getD 0 0 == (r10.fst.snd.fst.getD r10.snd.fst.snd.fst.toNat []).getD 0 0) == r10.fst.snd.snd.fst, ()))
 (none))
 (none))
 (none))
 (none))
 (none))
 (none)))))
noncomputable def F_law06_MerkleUnlike : A_law06_MerkleUnlike → M_law06_MerkleUnlike → Option O_law06_MerkleUnlike := fun a b => tree_law06_MerkleUnlike F_ideal_New F_merkle_Build F_law06_fixed F_ideal_Oracle_Bad L_law06_MerkleUnlike_8 a.1.1 a.1.2.1 a.1.2.2.1 a.2.1 some
theorem n_law06_MerkleUnlike (F_ideal_New : A_ideal_New → M_ideal_New → Option O_ideal_New) (F_merkle_Build : A_merkle_Build → M_merkle_Build → Option O_merkle_Build) (F_law06_fixed : A_law06_fixed → M_law06_fixed → Option O_law06_fixed) (F_ideal_Oracle_Bad : A_ideal_Oracle_Bad → M_ideal_Oracle_Bad → Option O_ideal_Oracle_Bad) (L_law06_MerkleUnlike_8 : LT_law06_MerkleUnlike_8 → LM_law06_MerkleUnlike_8 → Option LO_law06_MerkleUnlike_8) (x1 : List Int) (x2 : Int) (x3 : List ByteArray) (x4 : List ByteArray) {α : Type} (K : O_law06_MerkleUnlike → Option α) : tree_law06_MerkleUnlike F_ideal_New F_merkle_Build F_law06_fixed F_ideal_Oracle_Bad L_law06_MerkleUnlike_8 x1 x2 x3 x4 K = (tree_law06_MerkleUnlike F_ideal_New F_merkle_Build F_law06_fixed F_ideal_Oracle_Bad L_law06_MerkleUnlike_8 x1 x2 x3 x4 some).bind K := by simp only [tree_law06_MerkleUnlike, bind_cond, bind_none', bind_some', bind_bind', bind_sum]
theorem Fe_law06_MerkleUnlike (x1 : List Int) (x2 : Int) (x3 : List ByteArray) (x4 : List ByteArray) : F_law06_MerkleUnlike ((x1, (x2, (x3, ()))), (x4, ())) () = tree_law06_MerkleUnlike F_ideal_New F_merkle_Build F_law06_fixed F_ideal_Oracle_Bad L_law06_MerkleUnlike_8 x1 x2 x3 x4 some := rfl

end Go.Proofs.Ytljfdfghagiblaa.S2
