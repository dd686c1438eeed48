/- Plain forms of the program's functions, by program. -/
import Derived.Test.YtjhaidbfahobmaaGlaw17
set_option maxRecDepth 100000
set_option maxHeartbeats 0
set_option linter.unusedVariables false
set_option linter.unusedSimpArgs false
namespace Go.Proofs.Ytjhaidbfahobmaa.S2
open Go
/-! countersign/countersignlaw17.ReplReaches -/
def args_law17_ReplReaches : SkL := (.cons (.agg (.cons (.leaf (.int .u64)) (.cons (.leaf (.int .u64)) (.cons (.leaf (.slc 70 (.cons (.int .u64) (.cons (.int .i64) (.cons .str .nil))))) .nil)))) (.cons (.agg (.cons (.leaf (.int .u64)) (.cons (.leaf (.int .u64)) (.cons (.leaf (.slc 70 (.cons (.int .u64) (.cons (.int .i64) (.cons .str .nil))))) .nil)))) (.cons (.leaf (.int .i64)) .nil)))
def mem_law17_ReplReaches : MSk := []
def outs_law17_ReplReaches : List OutC := [⟨(.leaf .bool), []⟩]
abbrev A_law17_ReplReaches : Type := ((Int × Int × (List (Int × Int × ByteArray)) × Unit) × (Int × Int × (List (Int × Int × ByteArray)) × Unit) × Int × Unit)
abbrev M_law17_ReplReaches : Type := Unit
abbrev O_law17_ReplReaches : Type := Bool × Unit
def ltmps_law17_ReplReaches_8 : SkL := (dz 2 (.cons (.leaf (.int .i64)) (.cons (.const (.ptr 1096 0 0)) (dz 3 (.cons (.const (.ptr 1224 0 0)) (.cons (.const (.ptr 1256 0 0)) (.cons (.leaf (.int .u64)) (.cons (.leaf (.int .i64)) (.cons (.leaf .bool) (dz 120 .nil))))))))))
def lmem_law17_ReplReaches_8 : MSk := [(1096, .cells (.cons (.leaf (.int .u64)) (.cons (.leaf (.int .u64)) (.cons (.leaf (.slc 70 (.cons (.int .u64) (.cons (.int .i64) (.cons .str .nil))))) .nil)))), (1128, .cells (.cons (.leaf (.int .u64)) (.cons (.leaf (.int .u64)) (.cons (.leaf (.slc 70 (.cons (.int .u64) (.cons (.int .i64) (.cons .str .nil))))) .nil)))), (1224, .cells (.cons (.leaf (.int .u64)) (.cons (.leaf (.int .u64)) (.cons (.leaf (.slc 70 (.cons (.int .u64) (.cons (.int .i64) (.cons .str .nil))))) .nil)))), (1256, .cells (.cons (.leaf (.int .u64)) (.cons (.leaf (.int .u64)) (.cons (.leaf (.slc 70 (.cons (.int .u64) (.cons (.int .i64) (.cons .str .nil))))) .nil))))]
def louts_law17_ReplReaches_8 : List OutL := [⟨.ret, (dz 6 (.cons (.leaf .bool) (.cons (.const (.ptr 1224 0 0)) (.cons (.const (.ptr 1256 0 0)) (dz 2 (.cons (.leaf .bool) (dz 120 .nil))))))), [(1224, .cells (.cons (.leaf (.int .u64)) (.cons (.leaf (.int .u64)) (.cons (.leaf (.slc 70 (.cons (.int .u64) (.cons (.int .i64) (.cons .str .nil))))) .nil)))), (1256, .cells (.cons (.leaf (.int .u64)) (.cons (.leaf (.int .u64)) (.cons (.leaf (.slc 70 (.cons (.int .u64) (.cons (.int .i64) (.cons .str .nil))))) .nil))))]⟩, ⟨(.exit 0), (dz 7 (.cons (.const (.ptr 1224 0 0)) (.cons (.const (.ptr 1256 0 0)) (dz 2 (.cons (.leaf .bool) (dz 120 .nil)))))), [(1224, .cells (.cons (.leaf (.int .u64)) (.cons (.leaf (.int .u64)) (.cons (.leaf (.slc 70 (.cons (.int .u64) (.cons (.int .i64) (.cons .str .nil))))) .nil)))), (1256, .cells (.cons (.leaf (.int .u64)) (.cons (.leaf (.int .u64)) (.cons (.leaf (.slc 70 (.cons (.int .u64) (.cons (.int .i64) (.cons .str .nil))))) .nil))))]⟩]
abbrev LT_law17_ReplReaches_8 : Type := (Int × Int × Int × Bool × Unit)
abbrev LM_law17_ReplReaches_8 : Type := ((Int × Int × (List (Int × Int × ByteArray)) × Unit) × (Int × Int × (List (Int × Int × ByteArray)) × Unit) × (Int × Int × (List (Int × Int × ByteArray)) × Unit) × (Int × Int × (List (Int × Int × ByteArray)) × Unit) × Unit)
abbrev LO_law17_ReplReaches_8 : Type := ((Bool × Bool × Unit) × ((Int × Int × (List (Int × Int × ByteArray)) × Unit) × (Int × Int × (List (Int × Int × ByteArray)) × Unit) × Unit)) ⊕ ((Bool × Unit) × ((Int × Int × (List (Int × Int × ByteArray)) × Unit) × (Int × Int × (List (Int × Int × ByteArray)) × Unit) × Unit))
def ltree_law17_ReplReaches_8 (F_rlog_Last : A_rlog_Last → M_rlog_Last → Option O_rlog_Last) (F_repl_Send : A_repl_Send → M_repl_Send → Option O_repl_Send) (F_rlog_Merge : A_rlog_Merge → M_rlog_Merge → Option O_rlog_Merge) (F_repl_Back : A_repl_Back → M_repl_Back → Option O_repl_Back) {α : Type} (x1 : Int) (x2 : Int) (x3 : Int) (x4 : Bool) (x5 : Int) (x6 : Int) (x7 : List (Int × Int × ByteArray)) (x8 : Int) (x9 : Int) (x10 : List (Int × Int × ByteArray)) (x11 : Int) (x12 : Int) (x13 : List (Int × Int × ByteArray)) (x14 : Int) (x15 : Int) (x16 : List (Int × Int × ByteArray)) (kn : LT_law17_ReplReaches_8 → LM_law17_ReplReaches_8 → Option α) (kr : LO_law17_ReplReaches_8 → Option α) : Option α :=
 cond (decide (x3 < IntKind.i64.wrap (IntKind.i64.wrap (2 * (↑x7.length : Int)) + 2)))
 (cond (!x4)
 ((F_repl_Send ((x11, x12, x13, ()), x2, x1, ()) ()).bind fun r1 =>
 cond (!r1.fst.snd.snd.snd.fst)
 (kr (.inl ((false, (x4, ())), ((x11, (x12, (x13, ()))), ((x14, (x15, (x16, ()))), ())))))
 ((F_rlog_Merge ((x14, x15, x16, ()), r1.fst.fst, r1.fst.snd.fst, r1.fst.snd.snd.fst, ()) ()).bind fun r2 =>
 cond (r2.fst.snd.snd.fst)
 ((F_rlog_Last ((x11, x12, x13, ()), ()) ()).bind fun r3 =>
 kn (x1, (IntKind.u64.wrap (r2.fst.snd.fst + 1), (IntKind.i64.wrap (x3 + 1), (decide (IntKind.u64.wrap (r2.fst.snd.fst + 1) > r3.fst), ())))) ((x5, (x6, (x7, ()))), ((x8, (x9, (x10, ()))), ((x11, (x12, (x13, ()))), ((r2.fst.fst.fst, (r2.fst.fst.snd.fst, (r2.fst.fst.snd.snd.fst, ()))), ())))))
 ((F_rlog_Last ((x14, x15, x16, ()), ()) ()).bind fun r4 =>
 (F_repl_Back (x2, r4.fst, ()) ()).bind fun r5 =>
 kn (x1, (r5.fst, (IntKind.i64.wrap (x3 + 1), (x4, ())))) ((x5, (x6, (x7, ()))), ((x8, (x9, (x10, ()))), ((x11, (x12, (x13, ()))), ((x14, (x15, (x16, ()))), ())))))))
 (kr (.inr ((x4, ()), ((x11, (x12, (x13, ()))), ((x14, (x15, (x16, ()))), ()))))))
 (kr (.inr ((x4, ()), ((x11, (x12, (x13, ()))), ((x14, (x15, (x16, ()))), ())))))
noncomputable def L_law17_ReplReaches_8 : LT_law17_ReplReaches_8 → LM_law17_ReplReaches_8 → Option LO_law17_ReplReaches_8 := fun x y => runL (fun p => (fun (a : LT_law17_ReplReaches_8) (b : LM_law17_ReplReaches_8) => ltree_law17_ReplReaches_8 F_rlog_Last F_repl_Send F_rlog_Merge F_repl_Back a.1 a.2.1 a.2.2.1 a.2.2.2.1 b.1.1 b.1.2.1 b.1.2.2.1 b.2.1.1 b.2.1.2.1 b.2.1.2.2.1 b.2.2.1.1 b.2.2.1.2.1 b.2.2.1.2.2.1 b.2.2.2.1.1 b.2.2.2.1.2.1 b.2.2.2.1.2.2.1 (fun a' b' => some (.inl (a', b'))) fun r => some (.inr r)) p.1 p.2) (x, y)
theorem nl_law17_ReplReaches_8 (F_rlog_Last : A_rlog_Last → M_rlog_Last → Option O_rlog_Last) (F_repl_Send : A_repl_Send → M_repl_Send → Option O_repl_Send) (F_rlog_Merge : A_rlog_Merge → M_rlog_Merge → Option O_rlog_Merge) (F_repl_Back : A_repl_Back → M_repl_Back → Option O_repl_Back) (x1 : Int) (x2 : Int) (x3 : Int) (x4 : Bool) (x5 : Int) (x6 : Int) (x7 : List (Int × Int × ByteArray)) (x8 : Int) (x9 : Int) (x10 : List (Int × Int × ByteArray)) (x11 : Int) (x12 : Int) (x13 : List (Int × Int × ByteArray)) (x14 : Int) (x15 : Int) (x16 : List (Int × Int × ByteArray)) {α : Type} (kn : LT_law17_ReplReaches_8 → LM_law17_ReplReaches_8 → Option α) (kr : LO_law17_ReplReaches_8 → Option α) : ltree_law17_ReplReaches_8 F_rlog_Last F_repl_Send F_rlog_Merge F_repl_Back x1 x2 x3 x4 x5 x6 x7 x8 x9 x10 x11 x12 x13 x14 x15 x16 kn kr = (ltree_law17_ReplReaches_8 F_rlog_Last F_repl_Send F_rlog_Merge F_repl_Back x1 x2 x3 x4 x5 x6 x7 x8 x9 x10 x11 x12 x13 x14 x15 x16 (fun a b => some (.inl (a, b))) fun r => some (.inr r)).bind (Sum.elim (fun p : LT_law17_ReplReaches_8 × LM_law17_ReplReaches_8 => kn p.1 p.2) kr) := by simp only [ltree_law17_ReplReaches_8, bind_cond, bind_none', bind_some', bind_bind', bind_sum, Sum.elim_inl, Sum.elim_inr]
theorem Le_law17_ReplReaches_8 (x1 : Int) (x2 : Int) (x3 : Int) (x4 : Bool) (x5 : Int) (x6 : Int) (x7 : List (Int × Int × ByteArray)) (x8 : Int) (x9 : Int) (x10 : List (Int × Int × ByteArray)) (x11 : Int) (x12 : Int) (x13 : List (Int × Int × ByteArray)) (x14 : Int) (x15 : Int) (x16 : List (Int × Int × ByteArray)) : L_law17_ReplReaches_8 (x1, (x2, (x3, (x4, ())))) ((x5, (x6, (x7, ()))), ((x8, (x9, (x10, ()))), ((x11, (x12, (x13, ()))), ((x14, (x15, (x16, ()))), ())))) = ltree_law17_ReplReaches_8 F_rlog_Last F_repl_Send F_rlog_Merge F_repl_Back x1 x2 x3 x4 x5 x6 x7 x8 x9 x10 x11 x12 x13 x14 x15 x16 L_law17_ReplReaches_8 some := runL_tree (A := LT_law17_ReplReaches_8) (B := LM_law17_ReplReaches_8) (R := LO_law17_ReplReaches_8) (fun a b kn kr => ltree_law17_ReplReaches_8 F_rlog_Last F_repl_Send F_rlog_Merge F_repl_Back a.1 a.2.1 a.2.2.1 a.2.2.2.1 b.1.1 b.1.2.1 b.1.2.2.1 b.2.1.1 b.2.1.2.1 b.2.1.2.2.1 b.2.2.1.1 b.2.2.1.2.1 b.2.2.1.2.2.1 b.2.2.2.1.1 b.2.2.2.1.2.1 b.2.2.2.1.2.2.1 kn kr) (fun a b kn kr => nl_law17_ReplReaches_8 F_rlog_Last F_repl_Send F_rlog_Merge F_repl_Back a.1 a.2.1 a.2.2.1 a.2.2.2.1 b.1.1 b.1.2.1 b.1.2.2.1 b.2.1.1 b.2.1.2.1 b.2.1.2.2.1 b.2.2.1.1 b.2.2.1.2.1 b.2.2.1.2.2.1 b.2.2.2.1.1 b.2.2.2.1.2.1 b.2.2.2.1.2.2.1 kn kr) (x1, (x2, (x3, (x4, ())))) ((x5, (x6, (x7, ()))), ((x8, (x9, (x10, ()))), ((x11, (x12, (x13, ()))), ((x14, (x15, (x16, ()))), ()))))
def ltmps_law17_ReplReaches_22 : SkL := (dz 7 (.cons (.const (.ptr 1224 0 0)) (.cons (.const (.ptr 1256 0 0)) (dz 10 (.cons (.leaf (.int .u64)) (dz 112 .nil))))))
def lmem_law17_ReplReaches_22 : MSk := [(1224, .cells (.cons (.leaf (.int .u64)) (.cons (.leaf (.int .u64)) (.cons (.leaf (.slc 70 (.cons (.int .u64) (.cons (.int .i64) (.cons .str .nil))))) .nil)))), (1256, .cells (.cons (.leaf (.int .u64)) (.cons (.leaf (.int .u64)) (.cons (.leaf (.slc 70 (.cons (.int .u64) (.cons (.int .i64) (.cons .str .nil))))) .nil))))]
def louts_law17_ReplReaches_22 : List OutL := [⟨.ret, (dz 6 (.cons (.leaf .bool) (dz 125 .nil))), []⟩, ⟨(.exit 2), (dz 132 .nil), []⟩]
abbrev LT_law17_ReplReaches_22 : Type := (Int × Unit)
abbrev LM_law17_ReplReaches_22 : Type := ((Int × Int × (List (Int × Int × ByteArray)) × Unit) × (Int × Int × (List (Int × Int × ByteArray)) × Unit) × Unit)
abbrev LO_law17_ReplReaches_22 : Type := ((Bool × Unit) × Unit) ⊕ (Unit × Unit)
def ltree_law17_ReplReaches_22 (F_rlog_Last : A_rlog_Last → M_rlog_Last → Option O_rlog_Last) (F_rlog_Term : A_rlog_Term → M_rlog_Term → Option O_rlog_Term) {α : Type} (x1 : Int) (x2 : Int) (x3 : Int) (x4 : List (Int × Int × ByteArray)) (x5 : Int) (x6 : Int) (x7 : List (Int × Int × ByteArray)) (kn : LT_law17_ReplReaches_22 → LM_law17_ReplReaches_22 → Option α) (kr : LO_law17_ReplReaches_22 → Option α) : Option α :=
 (F_rlog_Last ((x2, x3, x4, ()), ()) ()).bind fun r1 =>
 cond (decide (x1 ≤ r1.fst))
 ((F_rlog_Term ((x2, x3, x4, ()), x1, ()) ()).bind fun r2 =>
 (F_rlog_Term ((x5, x6, x7, ()), x1, ()) ()).bind fun r3 =>
 cond (!r3.fst.snd.fst)
 (kr (.inl ((false, ()), ())))
 (cond (r2.fst.fst != r3.fst.fst)
 (kr (.inl ((false, ()), ())))
 (kn (IntKind.u64.wrap (x1 + 1), ()) ((x2, (x3, (x4, ()))), ((x5, (x6, (x7, ()))), ())))))
 (kr (.inr ((), ())))
noncomputable def L_law17_ReplReaches_22 : LT_law17_ReplReaches_22 → LM_law17_ReplReaches_22 → Option LO_law17_ReplReaches_22 := fun x y => runL (fun p => (fun (a : LT_law17_ReplReaches_22) (b : LM_law17_ReplReaches_22) => ltree_law17_ReplReaches_22 F_rlog_Last F_rlog_Term a.1 b.1.1 b.1.2.1 b.1.2.2.1 b.2.1.1 b.2.1.2.1 b.2.1.2.2.1 (fun a' b' => some (.inl (a', b'))) fun r => some (.inr r)) p.1 p.2) (x, y)
theorem nl_law17_ReplReaches_22 (F_rlog_Last : A_rlog_Last → M_rlog_Last → Option O_rlog_Last) (F_rlog_Term : A_rlog_Term → M_rlog_Term → Option O_rlog_Term) (x1 : Int) (x2 : Int) (x3 : Int) (x4 : List (Int × Int × ByteArray)) (x5 : Int) (x6 : Int) (x7 : List (Int × Int × ByteArray)) {α : Type} (kn : LT_law17_ReplReaches_22 → LM_law17_ReplReaches_22 → Option α) (kr : LO_law17_ReplReaches_22 → Option α) : ltree_law17_ReplReaches_22 F_rlog_Last F_rlog_Term x1 x2 x3 x4 x5 x6 x7 kn kr = (ltree_law17_ReplReaches_22 F_rlog_Last F_rlog_Term x1 x2 x3 x4 x5 x6 x7 (fun a b => some (.inl (a, b))) fun r => some (.inr r)).bind (Sum.elim (fun p : LT_law17_ReplReaches_22 × LM_law17_ReplReaches_22 => kn p.1 p.2) kr) := by simp only [ltree_law17_ReplReaches_22, bind_cond, bind_none', bind_some', bind_bind', bind_sum, Sum.elim_inl, Sum.elim_inr]
theorem Le_law17_ReplReaches_22 (x1 : Int) (x2 : Int) (x3 : Int) (x4 : List (Int × Int × ByteArray)) (x5 : Int) (x6 : Int) (x7 : List (Int × Int × ByteArray)) : L_law17_ReplReaches_22 (x1, ()) ((x2, (x3, (x4, ()))), ((x5, (x6, (x7, ()))), ())) = ltree_law17_ReplReaches_22 F_rlog_Last F_rlog_Term x1 x2 x3 x4 x5 x6 x7 L_law17_ReplReaches_22 some := runL_tree (A := LT_law17_ReplReaches_22) (B := LM_law17_ReplReaches_22) (R := LO_law17_ReplReaches_22) (fun a b kn kr => ltree_law17_ReplReaches_22 F_rlog_Last F_rlog_Term a.1 b.1.1 b.1.2.1 b.1.2.2.1 b.2.1.1 b.2.1.2.1 b.2.1.2.2.1 kn kr) (fun a b kn kr => nl_law17_ReplReaches_22 F_rlog_Last F_rlog_Term a.1 b.1.1 b.1.2.1 b.1.2.2.1 b.2.1.1 b.2.1.2.1 b.2.1.2.2.1 kn kr) (x1, ()) ((x2, (x3, (x4, ()))), ((x5, (x6, (x7, ()))), ()))
def tree_law17_ReplReaches (F_law17_fixed : A_law17_fixed → M_law17_fixed → Option O_law17_fixed) (F_law17_match : A_law17_match → M_law17_match → Option O_law17_match) (F_rlog_Last : A_rlog_Last → M_rlog_Last → Option O_rlog_Last) (L_law17_ReplReaches_8 : LT_law17_ReplReaches_8 → LM_law17_ReplReaches_8 → Option LO_law17_ReplReaches_8) (L_law17_ReplReaches_22 : LT_law17_ReplReaches_22 → LM_law17_ReplReaches_22 → Option LO_law17_ReplReaches_22) {α : Type} (x1 : Int) (x2 : Int) (x3 : List (Int × Int × ByteArray)) (x4 : Int) (x5 : Int) (x6 : List (Int × Int × ByteArray)) (x7 : Int) (K : O_law17_ReplReaches → Option α) : Option α :=
 (F_law17_fixed () ()).bind fun r1 =>
 cond (!r1.fst)
 ((F_law17_fixed () ()).bind fun r2 =>
 K (r2.fst, ()))
 (cond (decide ((↑x3.length : Int) > 60))
 ((F_law17_fixed () ()).bind fun r3 =>
 K (r3.fst, ()))
 (cond (decide ((↑x6.length : Int) > 60))
 ((F_law17_fixed () ()).bind fun r4 =>
 K (r4.fst, ()))
 (cond (decide (x7 < 1))
 ((F_law17_fixed () ()).bind fun r5 =>
 K (r5.fst, ()))
 ((F_law17_match (x3, x6, ()) ()).bind fun r6 =>
 cond (!r6.fst)
 ((F_law17_fixed () ()).bind fun r7 =>
 K (r7.fst, ()))
 ((F_rlog_Last ((0, 0, x3, ()), ()) ()).bind fun r8 =>
 (L_law17_ReplReaches_8 (x7, IntKind.u64.wrap (r8.fst + 1), 0, Bool.false, ()) ((x1, x2, x3, ()), (x4, x5, x6, ()), (0, 0, x3, ()), (0, 0, x6, ()), ())).bind fun r9 =>
 Sum.elim (fun u10 =>
 K (u10.fst.fst, ()))
 (fun u10 =>
 cond (!u10.fst.fst)
 (K (false, ()))
 ((L_law17_ReplReaches_22 (1, ()) ((u10.snd.fst.fst, u10.snd.fst.snd.fst, u10.snd.fst.snd.snd.fst, ()), (u10.snd.snd.fst.fst, u10.snd.snd.fst.snd.fst, u10.snd.snd.fst.snd.snd.fst, ()), ())).bind fun r11 =>
 Sum.elim (fun u12 =>
 K (u12.fst.fst, ()))
 (fun u12 =>
 K (true, ())) (r11))) (r9))))))
noncomputable def F_law17_ReplReaches : A_law17_ReplReaches → M_law17_ReplReaches → Option O_law17_ReplReaches := fun a b => tree_law17_ReplReaches F_law17_fixed F_law17_match F_rlog_Last L_law17_ReplReaches_8 L_law17_ReplReaches_22 a.1.1 a.1.2.1 a.1.2.2.1 a.2.1.1 a.2.1.2.1 a.2.1.2.2.1 a.2.2.1 some
theorem n_law17_ReplReaches (F_law17_fixed : A_law17_fixed → M_law17_fixed → Option O_law17_fixed) (F_law17_match : A_law17_match → M_law17_match → Option O_law17_match) (F_rlog_Last : A_rlog_Last → M_rlog_Last → Option O_rlog_Last) (L_law17_ReplReaches_8 : LT_law17_ReplReaches_8 → LM_law17_ReplReaches_8 → Option LO_law17_ReplReaches_8) (L_law17_ReplReaches_22 : LT_law17_ReplReaches_22 → LM_law17_ReplReaches_22 → Option LO_law17_ReplReaches_22) (x1 : Int) (x2 : Int) (x3 : List (Int × Int × ByteArray)) (x4 : Int) (x5 : Int) (x6 : List (Int × Int × ByteArray)) (x7 : Int) {α : Type} (K : O_law17_ReplReaches → Option α) : tree_law17_ReplReaches F_law17_fixed F_law17_match F_rlog_Last L_law17_ReplReaches_8 L_law17_ReplReaches_22 x1 x2 x3 x4 x5 x6 x7 K = (tree_law17_ReplReaches F_law17_fixed F_law17_match F_rlog_Last L_law17_ReplReaches_8 L_law17_ReplReaches_22 x1 x2 x3 x4 x5 x6 x7 some).bind K := by simp only [tree_law17_ReplReaches, bind_cond, bind_none', bind_some', bind_bind', bind_sum]
theorem Fe_law17_ReplReaches (x1 : Int) (x2 : Int) (x3 : List (Int × Int × ByteArray)) (x4 : Int) (x5 : Int) (x6 : List (Int × Int × ByteArray)) (x7 : Int) : F_law17_ReplReaches ((x1, (x2, (x3, ()))), ((x4, (x5, (x6, ()))), (x7, ()))) () = tree_law17_ReplReaches F_law17_fixed F_law17_match F_rlog_Last L_law17_ReplReaches_8 L_law17_ReplReaches_22 x1 x2 x3 x4 x5 x6 x7 some := rfl

end Go.Proofs.Ytjhaidbfahobmaa.S2
