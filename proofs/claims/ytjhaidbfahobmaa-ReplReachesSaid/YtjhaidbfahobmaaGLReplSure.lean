/- Plain forms of the program's functions, by program. -/
import Derived.Test.YtjhaidbfahobmaaGlaw17
import Derived.Test.YtjhaidbfahobmaaGrrepl
set_option maxRecDepth 100000
set_option maxHeartbeats 0
set_option linter.unusedVariables false
set_option linter.unusedSimpArgs false
namespace Go.Proofs.Ytjhaidbfahobmaa.S2
open Go
/-! countersign/countersignlaw17.ReplSure -/
def args_law17_ReplSure : SkL := (.cons (.agg (.cons (.leaf (.int .u64)) (.cons (.leaf (.int .u64)) (.cons (.leaf (.slc 70 (.cons (.int .u64) (.cons (.int .i64) (.cons .str .nil))))) .nil)))) (.cons (.agg (.cons (.leaf (.slc 22 (.cons (.int .u64) .nil))) (.cons (.leaf (.slc 43 (.cons (.int .u64) (.cons (.int .u64) (.cons (.int .u64) .nil))))) (.cons (.leaf (.int .u64)) (.cons (.leaf (.int .u64)) .nil))))) (.cons (.agg (.cons (.leaf (.int .u64)) (.cons (.leaf (.int .i64)) .nil))) .nil)))
def mem_law17_ReplSure : MSk := []
def outs_law17_ReplSure : List OutC := [⟨(.leaf .bool), []⟩]
abbrev A_law17_ReplSure : Type := ((Int × Int × (List (Int × Int × ByteArray)) × Unit) × (List Int × (List (Int × Int × Int)) × Int × Int × Unit) × (Int × Int × Unit) × Unit)
abbrev M_law17_ReplSure : Type := Unit
abbrev O_law17_ReplSure : Type := Bool × Unit
def ltmps_law17_ReplSure_9 : SkL := (dz 3 (.cons (.const (.ptr 1096 0 0)) (.cons (.const (.ptr 1128 0 0)) (dz 2 (.cons (.leaf (.int .i64)) (.cons (.leaf (.int .u64)) (.cons (.leaf (.int .u64)) (.cons (.leaf (.int .u64)) (.cons (.leaf .bool) (.cons (.const (.slw 512)) (.cons (.leaf (.int .i64)) (dz 145 .nil))))))))))))
def lmem_law17_ReplSure_9 : MSk := [(512, .row 22 (.cons (.int .u64) .nil)), (1096, .cells (.cons (.leaf (.int .u64)) (.cons (.leaf (.int .u64)) (.cons (.leaf (.slc 70 (.cons (.int .u64) (.cons (.int .i64) (.cons .str .nil))))) .nil)))), (1128, .cells (.cons (.leaf (.slc 22 (.cons (.int .u64) .nil))) (.cons (.leaf (.slc 43 (.cons (.int .u64) (.cons (.int .u64) (.cons (.int .u64) .nil))))) (.cons (.leaf (.int .u64)) (.cons (.leaf (.int .u64)) .nil))))), (1160, .cells (.cons (.leaf (.int .u64)) (.cons (.leaf (.int .i64)) .nil)))]
def louts_law17_ReplSure_9 : List OutL := [⟨(.exit 0), (dz 3 (.cons (.const (.ptr 1096 0 0)) (.cons (.const (.ptr 1128 0 0)) (dz 2 (.cons (.leaf (.int .i64)) (.cons (.leaf (.int .u64)) (.cons (.leaf (.int .u64)) (.cons (.leaf (.int .u64)) (.cons (.leaf .bool) (.cons (.const (.slw 512)) (dz 146 .nil))))))))))), [(512, .row 22 (.cons (.int .u64) .nil)), (1096, .cells (.cons (.leaf (.int .u64)) (.cons (.leaf (.int .u64)) (.cons (.leaf (.slc 70 (.cons (.int .u64) (.cons (.int .i64) (.cons .str .nil))))) .nil)))), (1128, .cells (.cons (.leaf (.slc 22 (.cons (.int .u64) .nil))) (.cons (.leaf (.slc 43 (.cons (.int .u64) (.cons (.int .u64) (.cons (.int .u64) .nil))))) (.cons (.leaf (.int .u64)) (.cons (.leaf (.int .u64)) .nil)))))]⟩]
abbrev LT_law17_ReplSure_9 : Type := (Int × Int × Int × Int × Bool × Int × Unit)
abbrev LM_law17_ReplSure_9 : Type := (List Int × (Int × Int × (List (Int × Int × ByteArray)) × Unit) × (List Int × (List (Int × Int × Int)) × Int × Int × Unit) × (Int × Int × Unit) × Unit)
abbrev LO_law17_ReplSure_9 : Type := (Int × Int × Int × Int × Bool × Unit) × (List Int × (Int × Int × (List (Int × Int × ByteArray)) × Unit) × (List Int × (List (Int × Int × Int)) × Int × Int × Unit) × Unit)
def ltree_law17_ReplSure_9 {α : Type} (x1 : Int) (x2 : Int) (x3 : Int) (x4 : Int) (x5 : Bool) (x6 : Int) (x7 : List Int) (x8 : Int) (x9 : Int) (x10 : List (Int × Int × ByteArray)) (x11 : List Int) (x12 : List (Int × Int × Int)) (x13 : Int) (x14 : Int) (x15 : Int) (x16 : Int) (kn : LT_law17_ReplSure_9 → LM_law17_ReplSure_9 → Option α) (kr : LO_law17_ReplSure_9 → Option α) : Option α :=
 cond (decide (x6 < (↑x12.length : Int)))
 (cond (decide (0 ≤ x6))
 (cond (decide (x6 < (↑x12.length : Int)))
 (cond (decide ((x12.getD x6.toNat (0, 0, 0)).snd.snd ≥ x3))
 (cond (decide (0 ≤ x6))
 (cond (decide (x6 < (↑x12.length : Int)))
 (cond (decide ((x7.length + 1) * 8 ≤ 140737488355328))
 (kn (x1, (x2, (x3, (x4, (x5, (IntKind.i64.wrap (x6 + 1), ())))))) (x7 ++ ([] ++ [(x12.getD x6.toNat (0, 0, 0)).fst]), ((x8, (x9, (x10, ()))), ((x11, (x12, (x13, (x14, ())))), ((x15, (x16, ())), ())))))
 (none))
 (none))
 (none))
 (kn (x1, (x2, (x3, (x4, (x5, (IntKind.i64.wrap (x6 + 1), ())))))) (x7, ((x8, (x9, (x10, ()))), ((x11, (x12, (x13, (x14, ())))), ((x15, (x16, ())), ()))))))
 (none))
 (none))
 (kr ((x1, (x2, (x3, (x4, (x5, ()))))), (x7, ((x8, (x9, (x10, ()))), ((x11, (x12, (x13, (x14, ())))), ())))))
noncomputable def L_law17_ReplSure_9 : LT_law17_ReplSure_9 → LM_law17_ReplSure_9 → Option LO_law17_ReplSure_9 := fun x y => runL (fun p => (fun (a : LT_law17_ReplSure_9) (b : LM_law17_ReplSure_9) => ltree_law17_ReplSure_9 a.1 a.2.1 a.2.2.1 a.2.2.2.1 a.2.2.2.2.1 a.2.2.2.2.2.1 b.1 b.2.1.1 b.2.1.2.1 b.2.1.2.2.1 b.2.2.1.1 b.2.2.1.2.1 b.2.2.1.2.2.1 b.2.2.1.2.2.2.1 b.2.2.2.1.1 b.2.2.2.1.2.1 (fun a' b' => some (.inl (a', b'))) fun r => some (.inr r)) p.1 p.2) (x, y)
theorem nl_law17_ReplSure_9 (x1 : Int) (x2 : Int) (x3 : Int) (x4 : Int) (x5 : Bool) (x6 : Int) (x7 : List Int) (x8 : Int) (x9 : Int) (x10 : List (Int × Int × ByteArray)) (x11 : List Int) (x12 : List (Int × Int × Int)) (x13 : Int) (x14 : Int) (x15 : Int) (x16 : Int) {α : Type} (kn : LT_law17_ReplSure_9 → LM_law17_ReplSure_9 → Option α) (kr : LO_law17_ReplSure_9 → Option α) : ltree_law17_ReplSure_9 x1 x2 x3 x4 x5 x6 x7 x8 x9 x10 x11 x12 x13 x14 x15 x16 kn kr = (ltree_law17_ReplSure_9 x1 x2 x3 x4 x5 x6 x7 x8 x9 x10 x11 x12 x13 x14 x15 x16 (fun a b => some (.inl (a, b))) fun r => some (.inr r)).bind (Sum.elim (fun p : LT_law17_ReplSure_9 × LM_law17_ReplSure_9 => kn p.1 p.2) kr) := by simp only [ltree_law17_ReplSure_9, bind_cond, bind_none', bind_some', bind_bind', bind_sum, Sum.elim_inl, Sum.elim_inr]
theorem Le_law17_ReplSure_9 (x1 : Int) (x2 : Int) (x3 : Int) (x4 : Int) (x5 : Bool) (x6 : Int) (x7 : List Int) (x8 : Int) (x9 : Int) (x10 : List (Int × Int × ByteArray)) (x11 : List Int) (x12 : List (Int × Int × Int)) (x13 : Int) (x14 : Int) (x15 : Int) (x16 : Int) : L_law17_ReplSure_9 (x1, (x2, (x3, (x4, (x5, (x6, ())))))) (x7, ((x8, (x9, (x10, ()))), ((x11, (x12, (x13, (x14, ())))), ((x15, (x16, ())), ())))) = ltree_law17_ReplSure_9 x1 x2 x3 x4 x5 x6 x7 x8 x9 x10 x11 x12 x13 x14 x15 x16 L_law17_ReplSure_9 some := runL_tree (A := LT_law17_ReplSure_9) (B := LM_law17_ReplSure_9) (R := LO_law17_ReplSure_9) (fun a b kn kr => ltree_law17_ReplSure_9 a.1 a.2.1 a.2.2.1 a.2.2.2.1 a.2.2.2.2.1 a.2.2.2.2.2.1 b.1 b.2.1.1 b.2.1.2.1 b.2.1.2.2.1 b.2.2.1.1 b.2.2.1.2.1 b.2.2.1.2.2.1 b.2.2.1.2.2.2.1 b.2.2.2.1.1 b.2.2.2.1.2.1 kn kr) (fun a b kn kr => nl_law17_ReplSure_9 a.1 a.2.1 a.2.2.1 a.2.2.2.1 a.2.2.2.2.1 a.2.2.2.2.2.1 b.1 b.2.1.1 b.2.1.2.1 b.2.1.2.2.1 b.2.2.1.1 b.2.2.1.2.1 b.2.2.1.2.2.1 b.2.2.1.2.2.2.1 b.2.2.2.1.1 b.2.2.2.1.2.1 kn kr) (x1, (x2, (x3, (x4, (x5, (x6, ())))))) (x7, ((x8, (x9, (x10, ()))), ((x11, (x12, (x13, (x14, ())))), ((x15, (x16, ())), ()))))
def tree_law17_ReplSure (F_law17_fixed : A_law17_fixed → M_law17_fixed → Option O_law17_fixed) (F_ref15_May : A_ref15_May → M_ref15_May → Option O_ref15_May) (F_repl_Commit : A_repl_Commit → M_repl_Commit → Option O_repl_Commit) (F_rlog_Term : A_rlog_Term → M_rlog_Term → Option O_rlog_Term) (F_ref16_Most : A_ref16_Most → M_ref16_Most → Option O_ref16_Most) (L_law17_ReplSure_9 : LT_law17_ReplSure_9 → LM_law17_ReplSure_9 → Option LO_law17_ReplSure_9) {α : Type} (x1 : Int) (x2 : Int) (x3 : List (Int × Int × ByteArray)) (x4 : List Int) (x5 : List (Int × Int × Int)) (x6 : Int) (x7 : Int) (x8 : Int) (x9 : Int) (K : O_law17_ReplSure → Option α) : Option α :=
 (F_law17_fixed () ()).bind fun r1 =>
 cond (!r1.fst)
 ((F_law17_fixed () ()).bind fun r2 =>
 K (r2.fst, ()))
 ((F_ref15_May ((x1, x2, x3, ()), ()) ()).bind fun r3 =>
 cond (!r3.fst)
 ((F_law17_fixed () ()).bind fun r4 =>
 K (r4.fst, ()))
 (cond (decide ((↑x4.length : Int) > 20))
 ((F_law17_fixed () ()).bind fun r5 =>
 K (r5.fst, ()))
 (cond (decide ((↑x5.length : Int) > 20))
 ((F_law17_fixed () ()).bind fun r6 =>
 K (r6.fst, ()))
 ((F_repl_Commit ((x1, x2, x3, ()), x4, x5, x6, x7, ()) ()).bind fun r7 =>
 cond (r7.fst != x7)
 ((F_rlog_Term ((x1, x2, x3, ()), r7.fst, ()) ()).bind fun r8 =>
 (L_law17_ReplSure_9 (x9, x8, r7.fst, r8.fst.fst, r8.fst.snd.fst, 0, ()) ([], (x1, x2, x3, ()), (x4, x5, x6, x7, ()), (x8, x9, ()), ())).bind fun r9 =>
 cond (decide (r9.fst.snd.snd.fst < r9.snd.snd.snd.fst.snd.snd.snd.fst))
 (K (false, ()))
 (cond (decide (r9.fst.snd.snd.fst ≤ r9.snd.snd.fst.fst))
 (K (false, ()))
 (cond (!r9.fst.snd.snd.snd.snd.fst)
 (K (false, ()))
 (cond (r9.fst.snd.snd.snd.fst != r9.snd.snd.snd.fst.snd.snd.fst)
 (K (false, ()))
 ((F_ref16_Most (r9.snd.snd.snd.fst.fst, r9.snd.fst, ()) ()).bind fun r10 =>
 cond (!r10.fst)
 (K (false, ()))
 (cond (decide (r9.fst.fst < 0))
 (K (true, ()))
 (cond (decide (r9.fst.fst ≥ (↑r9.snd.snd.snd.fst.snd.fst.length : Int)))
 (K (true, ()))
 (cond (decide ((0 + r9.snd.snd.snd.fst.snd.fst.length) * 24 ≤ 140737488355328))
 (cond (decide (0 ≤ r9.fst.fst))
 (cond (decide (r9.fst.fst < (↑([] ++ r9.snd.snd.snd.fst.snd.fst).length : Int)))
 (cond (decide (0 ≤ r9.fst.fst))
 (cond (decide (r9.fst.fst < (↑([] ++ r9.snd.snd.snd.fst.snd.fst).length : Int)))
 ((F_repl_Commit ((r9.snd.snd.fst.fst, r9.snd.snd.fst.snd.fst, r9.snd.snd.fst.snd.snd.fst, ()), r9.snd.snd.snd.fst.fst, ([] ++ r9.snd.snd.snd.fst.snd.fst).set (0 + r9.fst.fst.toNat) ((([] ++ r9.snd.snd.snd.fst.snd.fst).getD (0 + r9.fst.fst.toNat) (0, 0, 0)).fst, (([] ++ r9.snd.snd.snd.fst.snd.fst).getD (0 + r9.fst.fst.toNat) (0, 0, 0)).snd.fst, if r9.fst.snd.fst > (([] ++ r9.snd.snd.snd.fst.snd.fst).getD (0 + r9.fst.fst.toNat) (0, 0, 0)).snd.snd then r9.fst.snd.fst else (([] ++ r9.snd.snd.snd.fst.snd.fst).getD (0 + r9.fst.fst.toNat) (0, 0, 0)).snd.snd), r9.snd.snd.snd.fst.snd.snd.fst, r9.snd.snd.snd.fst.snd.snd.snd.fst, ()) ()).bind fun r11 =>
 cond (decide (r11.fst ≥ r9.fst.snd.snd.fst))
 ((F_repl_Commit ((r9.snd.snd.fst.fst, r9.snd.snd.fst.snd.fst, r9.snd.snd.fst.snd.snd.fst, ()), r9.snd.snd.snd.fst.fst, r9.snd.snd.snd.fst.snd.fst, r9.snd.snd.snd.fst.snd.snd.fst, r9.fst.snd.snd.fst, ()) ()).bind fun r12 =>
 K (r12.fst == r9.fst.snd.snd.fst, ()))
 (K (false, ())))
 (none))
 (none))
 (none))
 (none))
 (none)))))))))
 (cond (decide (x9 < 0))
 (K (true, ()))
 (cond (decide (x9 ≥ (↑x5.length : Int)))
 (K (true, ()))
 (cond (decide ((0 + x5.length) * 24 ≤ 140737488355328))
 (cond (decide (0 ≤ x9))
 (cond (decide (x9 < (↑([] ++ x5).length : Int)))
 (cond (decide (0 ≤ x9))
 (cond (decide (x9 < (↑([] ++ x5).length : Int)))
 ((F_repl_Commit ((x1, x2, x3, ()), x4, ([] ++ x5).set (0 + x9.toNat) ((([] ++ x5).getD (0 + x9.toNat) (0, 0, 0)).fst, (([] ++ x5).getD (0 + x9.toNat) (0, 0, 0)).snd.fst, if x8 > (([] ++ x5).getD (0 + x9.toNat) (0, 0, 0)).snd.snd then x8 else (([] ++ x5).getD (0 + x9.toNat) (0, 0, 0)).snd.snd), x6, x7, ()) ()).bind fun r13 =>
 cond (decide (r13.fst ≥ r7.fst))
 ((F_repl_Commit ((x1, x2, x3, ()), x4, x5, x6, r7.fst, ()) ()).bind fun r14 =>
 K (r14.fst == r7.fst, ()))
 (K (false, ())))
 (none))
 (none))
 (none))
 (none))
 (none))))))))
noncomputable def F_law17_ReplSure : A_law17_ReplSure → M_law17_ReplSure → Option O_law17_ReplSure := fun a b => tree_law17_ReplSure F_law17_fixed F_ref15_May F_repl_Commit F_rlog_Term F_ref16_Most L_law17_ReplSure_9 a.1.1 a.1.2.1 a.1.2.2.1 a.2.1.1 a.2.1.2.1 a.2.1.2.2.1 a.2.1.2.2.2.1 a.2.2.1.1 a.2.2.1.2.1 some
theorem n_law17_ReplSure (F_law17_fixed : A_law17_fixed → M_law17_fixed → Option O_law17_fixed) (F_ref15_May : A_ref15_May → M_ref15_May → Option O_ref15_May) (F_repl_Commit : A_repl_Commit → M_repl_Commit → Option O_repl_Commit) (F_rlog_Term : A_rlog_Term → M_rlog_Term → Option O_rlog_Term) (F_ref16_Most : A_ref16_Most → M_ref16_Most → Option O_ref16_Most) (L_law17_ReplSure_9 : LT_law17_ReplSure_9 → LM_law17_ReplSure_9 → Option LO_law17_ReplSure_9) (x1 : Int) (x2 : Int) (x3 : List (Int × Int × ByteArray)) (x4 : List Int) (x5 : List (Int × Int × Int)) (x6 : Int) (x7 : Int) (x8 : Int) (x9 : Int) {α : Type} (K : O_law17_ReplSure → Option α) : tree_law17_ReplSure F_law17_fixed F_ref15_May F_repl_Commit F_rlog_Term F_ref16_Most L_law17_ReplSure_9 x1 x2 x3 x4 x5 x6 x7 x8 x9 K = (tree_law17_ReplSure F_law17_fixed F_ref15_May F_repl_Commit F_rlog_Term F_ref16_Most L_law17_ReplSure_9 x1 x2 x3 x4 x5 x6 x7 x8 x9 some).bind K := by simp only [tree_law17_ReplSure, bind_cond, bind_none', bind_some', bind_bind', bind_sum]
theorem Fe_law17_ReplSure (x1 : Int) (x2 : Int) (x3 : List (Int × Int × ByteArray)) (x4 : List Int) (x5 : List (Int × Int × Int)) (x6 : Int) (x7 : Int) (x8 : Int) (x9 : Int) : F_law17_ReplSure ((x1, (x2, (x3, ()))), ((x4, (x5, (x6, (x7, ())))), ((x8, (x9, ())), ()))) () = tree_law17_ReplSure F_law17_fixed F_ref15_May F_repl_Commit F_rlog_Term F_ref16_Most L_law17_ReplSure_9 x1 x2 x3 x4 x5 x6 x7 x8 x9 some := rfl

end Go.Proofs.Ytjhaidbfahobmaa.S2
