/- Plain forms of the program's functions, by program. -/
import Derived.Test.YtjhaidbfahobmaaGrepl
set_option maxRecDepth 100000
set_option maxHeartbeats 0
set_option linter.unusedVariables false
set_option linter.unusedSimpArgs false
namespace Go.Proofs.Ytjhaidbfahobmaa.S2
open Go
/-! countersign/countersignlaw17.match -/
def args_law17_match : SkL := (.cons (.leaf (.slc 70 (.cons (.int .u64) (.cons (.int .i64) (.cons .str .nil))))) (.cons (.leaf (.slc 70 (.cons (.int .u64) (.cons (.int .i64) (.cons .str .nil))))) .nil))
def mem_law17_match : MSk := []
def outs_law17_match : List OutC := [⟨(.leaf .bool), []⟩]
abbrev A_law17_match : Type := ((List (Int × Int × ByteArray)) × (List (Int × Int × ByteArray)) × Unit)
abbrev M_law17_match : Type := Unit
abbrev O_law17_match : Type := Bool × Unit
def ltmps_law17_match_3 : SkL := (.cons (.leaf (.slc 70 (.cons (.int .u64) (.cons (.int .i64) (.cons .str .nil))))) (.cons (.leaf (.slc 70 (.cons (.int .u64) (.cons (.int .i64) (.cons .str .nil))))) (dz 3 (.cons (.leaf .bool) (.cons (.leaf (.int .i64)) (dz 40 .nil))))))
def lmem_law17_match_3 : MSk := []
def louts_law17_match_3 : List OutL := [⟨.ret, (dz 4 (.cons (.leaf .bool) (dz 42 .nil))), []⟩, ⟨(.exit 0), (dz 47 .nil), []⟩]
abbrev LT_law17_match_3 : Type := ((List (Int × Int × ByteArray)) × (List (Int × Int × ByteArray)) × Bool × Int × Unit)
abbrev LM_law17_match_3 : Type := Unit
abbrev LO_law17_match_3 : Type := ((Bool × Unit) × Unit) ⊕ (Unit × Unit)
def ltree_law17_match_3 {α : Type} (x1 : List (Int × Int × ByteArray)) (x2 : List (Int × Int × ByteArray)) (x3 : Bool) (x4 : Int) (kn : LT_law17_match_3 → LM_law17_match_3 → Option α) (kr : LO_law17_match_3 → Option α) : Option α :=
 cond (decide (x4 < (↑x1.length : Int)))
 (cond (decide (x4 < (↑x2.length : Int)))
 (cond (x3)
 (cond (decide (0 ≤ x4))
 (cond (decide (x4 < (↑x1.length : Int)))
 (cond (decide (0 ≤ x4))
 (cond (decide (x4 < (↑x2.length : Int)))
 (cond ((x1.getD x4.toNat (0, 0, ByteArray.empty)).fst == (x2.getD x4.toNat (0, 0, ByteArray.empty)).fst)
 (kr (.inl ((false, ()), ())))
 (cond (x3)
 (kn (x1, (x2, (true, (IntKind.i64.wrap (x4 + 1), ())))) ())
 (cond (decide (0 ≤ x4))
 (cond (decide (x4 < (↑x1.length : Int)))
 (cond (decide (0 ≤ x4))
 (cond (decide (x4 < (↑x2.length : Int)))
 (kn (x1, (x2, ((x1.getD x4.toNat (0, 0, ByteArray.empty)).fst != (x2.getD x4.toNat (0, 0, ByteArray.empty)).fst, (IntKind.i64.wrap (x4 + 1), ())))) ())
 (none))
 (none))
 (none))
 (none))))
 (none))
 (none))
 (none))
 (none))
 (cond (x3)
 (kn (x1, (x2, (true, (IntKind.i64.wrap (x4 + 1), ())))) ())
 (cond (decide (0 ≤ x4))
 (cond (decide (x4 < (↑x1.length : Int)))
 (cond (decide (0 ≤ x4))
 (cond (decide (x4 < (↑x2.length : Int)))
 (kn (x1, (x2, ((x1.getD x4.toNat (0, 0, ByteArray.empty)).fst != (x2.getD x4.toNat (0, 0, ByteArray.empty)).fst, (IntKind.i64.wrap (x4 + 1), ())))) ())
 (none))
 (none))
 (none))
 (none))))
 (kr (.inr ((), ()))))
 (kr (.inr ((), ())))
noncomputable def L_law17_match_3 : LT_law17_match_3 → LM_law17_match_3 → Option LO_law17_match_3 := fun x y => runL (fun p => (fun (a : LT_law17_match_3) (b : LM_law17_match_3) => ltree_law17_match_3 a.1 a.2.1 a.2.2.1 a.2.2.2.1 (fun a' b' => some (.inl (a', b'))) fun r => some (.inr r)) p.1 p.2) (x, y)
theorem nl_law17_match_3 (x1 : List (Int × Int × ByteArray)) (x2 : List (Int × Int × ByteArray)) (x3 : Bool) (x4 : Int) {α : Type} (kn : LT_law17_match_3 → LM_law17_match_3 → Option α) (kr : LO_law17_match_3 → Option α) : ltree_law17_match_3 x1 x2 x3 x4 kn kr = (ltree_law17_match_3 x1 x2 x3 x4 (fun a b => some (.inl (a, b))) fun r => some (.inr r)).bind (Sum.elim (fun p : LT_law17_match_3 × LM_law17_match_3 => kn p.1 p.2) kr) := by simp only [ltree_law17_match_3, bind_cond, bind_none', bind_some', bind_bind', bind_sum, Sum.elim_inl, Sum.elim_inr]
theorem Le_law17_match_3 (x1 : List (Int × Int × ByteArray)) (x2 : List (Int × Int × ByteArray)) (x3 : Bool) (x4 : Int) : L_law17_match_3 (x1, (x2, (x3, (x4, ())))) () = ltree_law17_match_3 x1 x2 x3 x4 L_law17_match_3 some := runL_tree (A := LT_law17_match_3) (B := LM_law17_match_3) (R := LO_law17_match_3) (fun a b kn kr => ltree_law17_match_3 a.1 a.2.1 a.2.2.1 a.2.2.2.1 kn kr) (fun a b kn kr => nl_law17_match_3 a.1 a.2.1 a.2.2.1 a.2.2.2.1 kn kr) (x1, (x2, (x3, (x4, ())))) ()
def tree_law17_match (L_law17_match_3 : LT_law17_match_3 → LM_law17_match_3 → Option LO_law17_match_3) {α : Type} (x1 : List (Int × Int × ByteArray)) (x2 : List (Int × Int × ByteArray)) (K : O_law17_match → Option α) : Option α :=
 (L_law17_match_3 (x1, x2, Bool.false, 0, ()) ()).bind fun r1 =>
 Sum.elim (fun u2 =>
 K (u2.fst.fst, ()))
 (fun u2 =>
 K (true, ())) (r1)
noncomputable def F_law17_match : A_law17_match → M_law17_match → Option O_law17_match := fun a b => tree_law17_match L_law17_match_3 a.1 a.2.1 some
theorem n_law17_match (L_law17_match_3 : LT_law17_match_3 → LM_law17_match_3 → Option LO_law17_match_3) (x1 : List (Int × Int × ByteArray)) (x2 : List (Int × Int × ByteArray)) {α : Type} (K : O_law17_match → Option α) : tree_law17_match L_law17_match_3 x1 x2 K = (tree_law17_match L_law17_match_3 x1 x2 some).bind K := by simp only [tree_law17_match, bind_cond, bind_none', bind_some', bind_bind', bind_sum]
theorem Fe_law17_match (x1 : List (Int × Int × ByteArray)) (x2 : List (Int × Int × ByteArray)) : F_law17_match (x1, (x2, ())) () = tree_law17_match L_law17_match_3 x1 x2 some := rfl

/-! countersign/countersignlaw17.terms -/
def args_law17_terms : SkL := (.cons (.leaf (.slc 22 (.cons (.int .u64) .nil))) .nil)
def mem_law17_terms : MSk := []
def outs_law17_terms : List OutC := [⟨(.agg (.cons (.leaf (.int .u64)) (.cons (.leaf (.int .u64)) (.cons (.leaf (.slc 70 (.cons (.int .u64) (.cons (.int .i64) (.cons .str .nil))))) .nil)))), []⟩]
abbrev A_law17_terms : Type := (List Int × Unit)
abbrev M_law17_terms : Type := Unit
abbrev O_law17_terms : Type := (Int × Int × (List (Int × Int × ByteArray)) × Unit) × Unit
def ltmps_law17_terms_3 : SkL := (.cons (.leaf (.slc 22 (.cons (.int .u64) .nil))) (.cons (.const .dead) (.cons (.const (.ptr 1064 0 0)) (.cons (.const (.ptr 1096 0 0)) (.cons (.leaf (.int .i64)) (dz 18 .nil))))))
def lmem_law17_terms_3 : MSk := [(503, .row 70 (.cons (.int .u64) (.cons (.int .i64) (.cons .str .nil)))), (1064, .cells (.cons (.leaf (.int .u64)) (.cons (.leaf (.int .u64)) (.cons (.const .nils) .nil)))), (1096, .cells (.cons (.leaf (.int .u64)) (.cons (.leaf (.int .u64)) (.cons (.const (.slw 503)) .nil))))]
def louts_law17_terms_3 : List OutL := [⟨(.exit 0), (dz 2 (.cons (.const (.ptr 1064 0 0)) (.cons (.const (.ptr 1096 0 0)) (dz 19 .nil)))), [(503, .row 70 (.cons (.int .u64) (.cons (.int .i64) (.cons .str .nil)))), (1064, .cells (.cons (.leaf (.int .u64)) (.cons (.leaf (.int .u64)) (.cons (.const .nils) .nil)))), (1096, .cells (.cons (.leaf (.int .u64)) (.cons (.leaf (.int .u64)) (.cons (.const (.slw 503)) .nil))))]⟩]
abbrev LT_law17_terms_3 : Type := (List Int × Int × Unit)
abbrev LM_law17_terms_3 : Type := ((List (Int × Int × ByteArray)) × (Int × Int × Unit) × (Int × Int × Unit) × Unit)
abbrev LO_law17_terms_3 : Type := Unit × ((List (Int × Int × ByteArray)) × (Int × Int × Unit) × (Int × Int × Unit) × Unit)
def ltree_law17_terms_3 {α : Type} (x1 : List Int) (x2 : Int) (x3 : List (Int × Int × ByteArray)) (x4 : Int) (x5 : Int) (x6 : Int) (x7 : Int) (kn : LT_law17_terms_3 → LM_law17_terms_3 → Option α) (kr : LO_law17_terms_3 → Option α) : Option α :=
 cond (decide (x2 < (↑x1.length : Int)))
 (cond (decide (0 ≤ x2))
 (cond (decide (x2 < (↑x1.length : Int)))
 (cond (decide ((x3.length + 1) * 32 ≤ 140737488355328))
 (kn (x1, (IntKind.i64.wrap (x2 + 1), ())) (x3 ++ ([] ++ [(x1.getD x2.toNat 0, 0, ByteArray.empty)]), ((x4, (x5, ())), ((x6, (x7, ())), ()))))
 (none))
 (none))
 (none))
 (kr ((), (x3, ((x4, (x5, ())), ((x6, (x7, ())), ())))))
noncomputable def L_law17_terms_3 : LT_law17_terms_3 → LM_law17_terms_3 → Option LO_law17_terms_3 := fun x y => runL (fun p => (fun (a : LT_law17_terms_3) (b : LM_law17_terms_3) => ltree_law17_terms_3 a.1 a.2.1 b.1 b.2.1.1 b.2.1.2.1 b.2.2.1.1 b.2.2.1.2.1 (fun a' b' => some (.inl (a', b'))) fun r => some (.inr r)) p.1 p.2) (x, y)
theorem nl_law17_terms_3 (x1 : List Int) (x2 : Int) (x3 : List (Int × Int × ByteArray)) (x4 : Int) (x5 : Int) (x6 : Int) (x7 : Int) {α : Type} (kn : LT_law17_terms_3 → LM_law17_terms_3 → Option α) (kr : LO_law17_terms_3 → Option α) : ltree_law17_terms_3 x1 x2 x3 x4 x5 x6 x7 kn kr = (ltree_law17_terms_3 x1 x2 x3 x4 x5 x6 x7 (fun a b => some (.inl (a, b))) fun r => some (.inr r)).bind (Sum.elim (fun p : LT_law17_terms_3 × LM_law17_terms_3 => kn p.1 p.2) kr) := by simp only [ltree_law17_terms_3, bind_cond, bind_none', bind_some', bind_bind', bind_sum, Sum.elim_inl, Sum.elim_inr]
theorem Le_law17_terms_3 (x1 : List Int) (x2 : Int) (x3 : List (Int × Int × ByteArray)) (x4 : Int) (x5 : Int) (x6 : Int) (x7 : Int) : L_law17_terms_3 (x1, (x2, ())) (x3, ((x4, (x5, ())), ((x6, (x7, ())), ()))) = ltree_law17_terms_3 x1 x2 x3 x4 x5 x6 x7 L_law17_terms_3 some := runL_tree (A := LT_law17_terms_3) (B := LM_law17_terms_3) (R := LO_law17_terms_3) (fun a b kn kr => ltree_law17_terms_3 a.1 a.2.1 b.1 b.2.1.1 b.2.1.2.1 b.2.2.1.1 b.2.2.1.2.1 kn kr) (fun a b kn kr => nl_law17_terms_3 a.1 a.2.1 b.1 b.2.1.1 b.2.1.2.1 b.2.2.1.1 b.2.2.1.2.1 kn kr) (x1, (x2, ())) (x3, ((x4, (x5, ())), ((x6, (x7, ())), ())))
def tree_law17_terms (L_law17_terms_3 : LT_law17_terms_3 → LM_law17_terms_3 → Option LO_law17_terms_3) {α : Type} (x1 : List Int) (K : O_law17_terms → Option α) : Option α :=
 (L_law17_terms_3 (x1, 0, ()) ([], (0, 0, ()), (0, 0, ()), ())).bind fun r1 =>
 K ((r1.snd.snd.snd.fst.fst, (r1.snd.snd.snd.fst.snd.fst, (r1.snd.fst, ()))), ())
noncomputable def F_law17_terms : A_law17_terms → M_law17_terms → Option O_law17_terms := fun a b => tree_law17_terms L_law17_terms_3 a.1 some
theorem n_law17_terms (L_law17_terms_3 : LT_law17_terms_3 → LM_law17_terms_3 → Option LO_law17_terms_3) (x1 : List Int) {α : Type} (K : O_law17_terms → Option α) : tree_law17_terms L_law17_terms_3 x1 K = (tree_law17_terms L_law17_terms_3 x1 some).bind K := by simp only [tree_law17_terms, bind_cond, bind_none', bind_some', bind_bind', bind_sum]
theorem Fe_law17_terms (x1 : List Int) : F_law17_terms (x1, ()) () = tree_law17_terms L_law17_terms_3 x1 some := rfl

/-! countersign/countersignlaw17.fixed -/
def args_law17_fixed : SkL := .nil
def mem_law17_fixed : MSk := []
def outs_law17_fixed : List OutC := [⟨(.leaf .bool), []⟩]
abbrev A_law17_fixed : Type := Unit
abbrev M_law17_fixed : Type := Unit
abbrev O_law17_fixed : Type := Bool × Unit
def tree_law17_fixed (F_law17_terms : A_law17_terms → M_law17_terms → Option O_law17_terms) (F_repl_Send : A_repl_Send → M_repl_Send → Option O_repl_Send) (F_repl_Commit : A_repl_Commit → M_repl_Commit → Option O_repl_Commit) (F_repl_Back : A_repl_Back → M_repl_Back → Option O_repl_Back) {α : Type} (K : O_law17_fixed → Option α) : Option α :=
 (F_law17_terms ([] ++ [1] ++ [1] ++ [2] ++ [2], ()) ()).bind fun r1 =>
 (F_repl_Send ((r1.fst.fst, r1.fst.snd.fst, r1.fst.snd.snd.fst, ()), 3, 1, ()) ()).bind fun r2 =>
 (F_repl_Commit ((r1.fst.fst, r1.fst.snd.fst, r1.fst.snd.snd.fst, ()), [] ++ [1] ++ [2] ++ [3], [] ++ [(1, 0, 4)] ++ [(2, 0, 3)] ++ [(3, 0, 0)], 2, 0, ()) ()).bind fun r3 =>
 cond (r3.fst == 3)
 ((F_repl_Commit ((r1.fst.fst, r1.fst.snd.fst, r1.fst.snd.snd.fst, ()), [] ++ [1] ++ [2] ++ [3], [] ++ [(1, 0, 4)] ++ [(2, 0, 3)] ++ [(3, 0, 0)], 1, 0, ()) ()).bind fun r4 =>
 cond (r4.fst == 2)
 ((F_repl_Commit ((r1.fst.fst, r1.fst.snd.fst, r1.fst.snd.snd.fst, ()), [] ++ [1] ++ [2] ++ [3], [] ++ [(1, 0, 4)] ++ [(2, 0, 3)] ++ [(3, 0, 0)], 3, 0, ()) ()).bind fun r5 =>
 cond (r5.fst == 0)
 ((F_repl_Back (5, 2, ()) ()).bind fun r6 =>
 cond (r6.fst == 3)
 (cond (r2.fst.fst == 2)
 (cond (r2.fst.snd.fst == 1)
 (cond (r2.fst.snd.snd.snd.fst)
 (K ((↑r2.fst.snd.snd.fst.length : Int) == 1, ()))
 (K (false, ())))
 (K (false, ())))
 (K (false, ())))
 (K (false, ())))
 (K (false, ())))
 (K (false, ())))
 (K (false, ()))
noncomputable def F_law17_fixed : A_law17_fixed → M_law17_fixed → Option O_law17_fixed := fun a b => tree_law17_fixed F_law17_terms F_repl_Send F_repl_Commit F_repl_Back some
theorem n_law17_fixed (F_law17_terms : A_law17_terms → M_law17_terms → Option O_law17_terms) (F_repl_Send : A_repl_Send → M_repl_Send → Option O_repl_Send) (F_repl_Commit : A_repl_Commit → M_repl_Commit → Option O_repl_Commit) (F_repl_Back : A_repl_Back → M_repl_Back → Option O_repl_Back) {α : Type} (K : O_law17_fixed → Option α) : tree_law17_fixed F_law17_terms F_repl_Send F_repl_Commit F_repl_Back K = (tree_law17_fixed F_law17_terms F_repl_Send F_repl_Commit F_repl_Back some).bind K := by simp only [tree_law17_fixed, bind_cond, bind_none', bind_some', bind_bind', bind_sum]
theorem Fe_law17_fixed : F_law17_fixed () () = tree_law17_fixed F_law17_terms F_repl_Send F_repl_Commit F_repl_Back some := rfl

end Go.Proofs.Ytjhaidbfahobmaa.S2
