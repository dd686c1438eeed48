/- Plain forms of the program's functions, by program. -/
import Derived.Test.YtjhaidbfahobmaaGvote
set_option maxRecDepth 100000
set_option maxHeartbeats 0
set_option linter.unusedVariables false
set_option linter.unusedSimpArgs false
namespace Go.Proofs.Ytjhaidbfahobmaa.S2
open Go
/-! countersign/repl.Back -/
def args_repl_Back : SkL := (.cons (.leaf (.int .u64)) (.cons (.leaf (.int .u64)) .nil))
def mem_repl_Back : MSk := []
def outs_repl_Back : List OutC := [⟨(.leaf (.int .u64)), []⟩]
abbrev A_repl_Back : Type := (Int × Int × Unit)
abbrev M_repl_Back : Type := Unit
abbrev O_repl_Back : Type := Int × Unit
def tree_repl_Back {α : Type} (x1 : Int) (x2 : Int) (K : O_repl_Back → Option α) : Option α :=
 cond (decide (x2 < 18446744073709551615))
 (K (if (if IntKind.u64.wrap (x2 + 1) < IntKind.u64.wrap ((if 1 > x1 then 1 else x1) - 1) then IntKind.u64.wrap (x2 + 1) else IntKind.u64.wrap ((if 1 > x1 then 1 else x1) - 1)) > 1 then if IntKind.u64.wrap (x2 + 1) < IntKind.u64.wrap ((if 1 > x1 then 1 else x1) - 1) then IntKind.u64.wrap (x2 + 1) else IntKind.u64.wrap ((if 1 > x1 then 1 else x1) - 1) else 1, ()))
 (K (if (if x2 < IntKind.u64.wrap ((if 1 > x1 then 1 else x1) - 1) then x2 else IntKind.u64.wrap ((if 1 > x1 then 1 else x1) - 1)) > 1 then if x2 < IntKind.u64.wrap ((if 1 > x1 then 1 else x1) - 1) then x2 else IntKind.u64.wrap ((if 1 > x1 then 1 else x1) - 1) else 1, ()))
noncomputable def F_repl_Back : A_repl_Back → M_repl_Back → Option O_repl_Back := fun a b => tree_repl_Back a.1 a.2.1 some
theorem n_repl_Back (x1 : Int) (x2 : Int) {α : Type} (K : O_repl_Back → Option α) : tree_repl_Back x1 x2 K = (tree_repl_Back x1 x2 some).bind K := by simp only [tree_repl_Back, bind_cond, bind_none', bind_some', bind_bind', bind_sum]
theorem Fe_repl_Back (x1 : Int) (x2 : Int) : F_repl_Back (x1, (x2, ())) () = tree_repl_Back x1 x2 some := rfl

/-! countersign/repl.have -/
def args_repl_have : SkL := (.cons (.leaf (.slc 43 (.cons (.int .u64) (.cons (.int .u64) (.cons (.int .u64) .nil))))) (.cons (.leaf (.int .u64)) .nil))
def mem_repl_have : MSk := []
def outs_repl_have : List OutC := [⟨(.leaf (.slc 22 (.cons (.int .u64) .nil))), []⟩]
abbrev A_repl_have : Type := ((List (Int × Int × Int)) × Int × Unit)
abbrev M_repl_have : Type := Unit
abbrev O_repl_have : Type := List Int × Unit
def ltmps_repl_have_3 : SkL := (.cons (.const .dead) (.cons (.leaf (.int .u64)) (dz 3 (.cons (.const (.slw 505)) (dz 2 (.cons (.leaf (.slc 43 (.cons (.int .u64) (.cons (.int .u64) (.cons (.int .u64) .nil))))) (.cons (.leaf (.int .i64)) (.cons (.leaf (.int .i64)) (dz 14 .nil)))))))))
def lmem_repl_have_3 : MSk := [(505, .row 22 (.cons (.int .u64) .nil))]
def louts_repl_have_3 : List OutL := [⟨(.exit 0), (dz 5 (.cons (.const (.slw 505)) (dz 19 .nil))), [(505, .row 22 (.cons (.int .u64) .nil))]⟩]
abbrev LT_repl_have_3 : Type := (Int × (List (Int × Int × Int)) × Int × Int × Unit)
abbrev LM_repl_have_3 : Type := (List Int × Unit)
abbrev LO_repl_have_3 : Type := Unit × (List Int × Unit)
def ltree_repl_have_3 {α : Type} (x1 : Int) (x2 : List (Int × Int × Int)) (x3 : Int) (x4 : Int) (x5 : List Int) (kn : LT_repl_have_3 → LM_repl_have_3 → Option α) (kr : LO_repl_have_3 → Option α) : Option α :=
 cond (decide (x4 < x3))
 (cond (decide (0 ≤ x4))
 (cond (decide (x4 < (↑x2.length : Int)))
 (cond (decide ((x2.getD x4.toNat (0, 0, 0)).snd.snd ≥ x1))
 (cond (decide ((x5.length + 1) * 8 ≤ 140737488355328))
 (kn (x1, (x2, (x3, (IntKind.i64.wrap (x4 + 1), ())))) (x5 ++ ([] ++ [(x2.getD x4.toNat (0, 0, 0)).fst]), ()))
 (none))
 (kn (x1, (x2, (x3, (IntKind.i64.wrap (x4 + 1), ())))) (x5, ())))
 (none))
 (none))
 (kr ((), (x5, ())))
noncomputable def L_repl_have_3 : LT_repl_have_3 → LM_repl_have_3 → Option LO_repl_have_3 := fun x y => runL (fun p => (fun (a : LT_repl_have_3) (b : LM_repl_have_3) => ltree_repl_have_3 a.1 a.2.1 a.2.2.1 a.2.2.2.1 b.1 (fun a' b' => some (.inl (a', b'))) fun r => some (.inr r)) p.1 p.2) (x, y)
theorem nl_repl_have_3 (x1 : Int) (x2 : List (Int × Int × Int)) (x3 : Int) (x4 : Int) (x5 : List Int) {α : Type} (kn : LT_repl_have_3 → LM_repl_have_3 → Option α) (kr : LO_repl_have_3 → Option α) : ltree_repl_have_3 x1 x2 x3 x4 x5 kn kr = (ltree_repl_have_3 x1 x2 x3 x4 x5 (fun a b => some (.inl (a, b))) fun r => some (.inr r)).bind (Sum.elim (fun p : LT_repl_have_3 × LM_repl_have_3 => kn p.1 p.2) kr) := by simp only [ltree_repl_have_3, bind_cond, bind_none', bind_some', bind_bind', bind_sum, Sum.elim_inl, Sum.elim_inr]
theorem Le_repl_have_3 (x1 : Int) (x2 : List (Int × Int × Int)) (x3 : Int) (x4 : Int) (x5 : List Int) : L_repl_have_3 (x1, (x2, (x3, (x4, ())))) (x5, ()) = ltree_repl_have_3 x1 x2 x3 x4 x5 L_repl_have_3 some := runL_tree (A := LT_repl_have_3) (B := LM_repl_have_3) (R := LO_repl_have_3) (fun a b kn kr => ltree_repl_have_3 a.1 a.2.1 a.2.2.1 a.2.2.2.1 b.1 kn kr) (fun a b kn kr => nl_repl_have_3 a.1 a.2.1 a.2.2.1 a.2.2.2.1 b.1 kn kr) (x1, (x2, (x3, (x4, ())))) (x5, ())
def tree_repl_have (L_repl_have_3 : LT_repl_have_3 → LM_repl_have_3 → Option LO_repl_have_3) {α : Type} (x1 : List (Int × Int × Int)) (x2 : Int) (K : O_repl_have → Option α) : Option α :=
 (L_repl_have_3 (x2, x1, (↑x1.length : Int), 0, ()) ([], ())).bind fun r1 =>
 K (r1.snd.fst, ())
noncomputable def F_repl_have : A_repl_have → M_repl_have → Option O_repl_have := fun a b => tree_repl_have L_repl_have_3 a.1 a.2.1 some
theorem n_repl_have (L_repl_have_3 : LT_repl_have_3 → LM_repl_have_3 → Option LO_repl_have_3) (x1 : List (Int × Int × Int)) (x2 : Int) {α : Type} (K : O_repl_have → Option α) : tree_repl_have L_repl_have_3 x1 x2 K = (tree_repl_have L_repl_have_3 x1 x2 some).bind K := by simp only [tree_repl_have, bind_cond, bind_none', bind_some', bind_bind', bind_sum]
theorem Fe_repl_have (x1 : List (Int × Int × Int)) (x2 : Int) : F_repl_have (x1, (x2, ())) () = tree_repl_have L_repl_have_3 x1 x2 some := rfl

/-! countersign/repl.Commit -/
def args_repl_Commit : SkL := (.cons (.agg (.cons (.leaf (.int .u64)) (.cons (.leaf (.int .u64)) (.cons (.leaf (.slc 70 (.cons (.int .u64) (.cons (.int .i64) (.cons .str .nil))))) .nil)))) (.cons (.leaf (.slc 22 (.cons (.int .u64) .nil))) (.cons (.leaf (.slc 43 (.cons (.int .u64) (.cons (.int .u64) (.cons (.int .u64) .nil))))) (.cons (.leaf (.int .u64)) (.cons (.leaf (.int .u64)) .nil)))))
def mem_repl_Commit : MSk := []
def outs_repl_Commit : List OutC := [⟨(.leaf (.int .u64)), []⟩]
abbrev A_repl_Commit : Type := ((Int × Int × (List (Int × Int × ByteArray)) × Unit) × List Int × (List (Int × Int × Int)) × Int × Int × Unit)
abbrev M_repl_Commit : Type := Unit
abbrev O_repl_Commit : Type := Int × Unit
def ltmps_repl_Commit_2 : SkL := (.cons (.const .dead) (.cons (.leaf (.slc 22 (.cons (.int .u64) .nil))) (.cons (.leaf (.slc 43 (.cons (.int .u64) (.cons (.int .u64) (.cons (.int .u64) .nil))))) (.cons (.leaf (.int .u64)) (.cons (.leaf (.int .u64)) (.cons (.const (.ptr 1160 0 0)) (dz 5 (.cons (.leaf (.int .u64)) (dz 33 .nil)))))))))
def lmem_repl_Commit_2 : MSk := [(1160, .cells (.cons (.leaf (.int .u64)) (.cons (.leaf (.int .u64)) (.cons (.leaf (.slc 70 (.cons (.int .u64) (.cons (.int .i64) (.cons .str .nil))))) .nil))))]
def louts_repl_Commit_2 : List OutL := [⟨.ret, (dz 4 (.cons (.leaf (.int .u64)) (dz 5 (.cons (.leaf (.int .u64)) (dz 34 .nil))))), []⟩, ⟨(.exit 0), (dz 4 (.cons (.leaf (.int .u64)) (dz 40 .nil))), []⟩]
abbrev LT_repl_Commit_2 : Type := (List Int × (List (Int × Int × Int)) × Int × Int × Int × Unit)
abbrev LM_repl_Commit_2 : Type := ((Int × Int × (List (Int × Int × ByteArray)) × Unit) × Unit)
abbrev LO_repl_Commit_2 : Type := ((Int × Int × Unit) × Unit) ⊕ ((Int × Unit) × Unit)
def ltree_repl_Commit_2 (F_rlog_Term : A_rlog_Term → M_rlog_Term → Option O_rlog_Term) (F_repl_have : A_repl_have → M_repl_have → Option O_repl_have) (F_vote_Most : A_vote_Most → M_vote_Most → Option O_vote_Most) {α : Type} (x1 : List Int) (x2 : List (Int × Int × Int)) (x3 : Int) (x4 : Int) (x5 : Int) (x6 : Int) (x7 : Int) (x8 : List (Int × Int × ByteArray)) (kn : LT_repl_Commit_2 → LM_repl_Commit_2 → Option α) (kr : LO_repl_Commit_2 → Option α) : Option α :=
 cond (decide (x5 > x4))
 (cond (decide (x5 > x6))
 ((F_rlog_Term ((x6, x7, x8, ()), x5, ()) ()).bind fun r1 =>
 cond (r1.fst.fst == x3)
 ((F_repl_have (x2, x5, ()) ()).bind fun r2 =>
 (F_vote_Most (x1, r2.fst, ()) ()).bind fun r3 =>
 cond (r3.fst)
 (kr (.inl ((x4, (x5, ())), ())))
 (kn (x1, (x2, (x3, (x4, (IntKind.u64.wrap (x5 - 1), ()))))) ((x6, (x7, (x8, ()))), ())))
 (kn (x1, (x2, (x3, (x4, (IntKind.u64.wrap (x5 - 1), ()))))) ((x6, (x7, (x8, ()))), ())))
 (kr (.inr ((x4, ()), ()))))
 (kr (.inr ((x4, ()), ())))
noncomputable def L_repl_Commit_2 : LT_repl_Commit_2 → LM_repl_Commit_2 → Option LO_repl_Commit_2 := fun x y => runL (fun p => (fun (a : LT_repl_Commit_2) (b : LM_repl_Commit_2) => ltree_repl_Commit_2 F_rlog_Term F_repl_have F_vote_Most a.1 a.2.1 a.2.2.1 a.2.2.2.1 a.2.2.2.2.1 b.1.1 b.1.2.1 b.1.2.2.1 (fun a' b' => some (.inl (a', b'))) fun r => some (.inr r)) p.1 p.2) (x, y)
theorem nl_repl_Commit_2 (F_rlog_Term : A_rlog_Term → M_rlog_Term → Option O_rlog_Term) (F_repl_have : A_repl_have → M_repl_have → Option O_repl_have) (F_vote_Most : A_vote_Most → M_vote_Most → Option O_vote_Most) (x1 : List Int) (x2 : List (Int × Int × Int)) (x3 : Int) (x4 : Int) (x5 : Int) (x6 : Int) (x7 : Int) (x8 : List (Int × Int × ByteArray)) {α : Type} (kn : LT_repl_Commit_2 → LM_repl_Commit_2 → Option α) (kr : LO_repl_Commit_2 → Option α) : ltree_repl_Commit_2 F_rlog_Term F_repl_have F_vote_Most x1 x2 x3 x4 x5 x6 x7 x8 kn kr = (ltree_repl_Commit_2 F_rlog_Term F_repl_have F_vote_Most x1 x2 x3 x4 x5 x6 x7 x8 (fun a b => some (.inl (a, b))) fun r => some (.inr r)).bind (Sum.elim (fun p : LT_repl_Commit_2 × LM_repl_Commit_2 => kn p.1 p.2) kr) := by simp only [ltree_repl_Commit_2, bind_cond, bind_none', bind_some', bind_bind', bind_sum, Sum.elim_inl, Sum.elim_inr]
theorem Le_repl_Commit_2 (x1 : List Int) (x2 : List (Int × Int × Int)) (x3 : Int) (x4 : Int) (x5 : Int) (x6 : Int) (x7 : Int) (x8 : List (Int × Int × ByteArray)) : L_repl_Commit_2 (x1, (x2, (x3, (x4, (x5, ()))))) ((x6, (x7, (x8, ()))), ()) = ltree_repl_Commit_2 F_rlog_Term F_repl_have F_vote_Most x1 x2 x3 x4 x5 x6 x7 x8 L_repl_Commit_2 some := runL_tree (A := LT_repl_Commit_2) (B := LM_repl_Commit_2) (R := LO_repl_Commit_2) (fun a b kn kr => ltree_repl_Commit_2 F_rlog_Term F_repl_have F_vote_Most a.1 a.2.1 a.2.2.1 a.2.2.2.1 a.2.2.2.2.1 b.1.1 b.1.2.1 b.1.2.2.1 kn kr) (fun a b kn kr => nl_repl_Commit_2 F_rlog_Term F_repl_have F_vote_Most a.1 a.2.1 a.2.2.1 a.2.2.2.1 a.2.2.2.2.1 b.1.1 b.1.2.1 b.1.2.2.1 kn kr) (x1, (x2, (x3, (x4, (x5, ()))))) ((x6, (x7, (x8, ()))), ())
def tree_repl_Commit (F_rlog_Last : A_rlog_Last → M_rlog_Last → Option O_rlog_Last) (L_repl_Commit_2 : LT_repl_Commit_2 → LM_repl_Commit_2 → Option LO_repl_Commit_2) {α : Type} (x1 : Int) (x2 : Int) (x3 : List (Int × Int × ByteArray)) (x4 : List Int) (x5 : List (Int × Int × Int)) (x6 : Int) (x7 : Int) (K : O_repl_Commit → Option α) : Option α :=
 (F_rlog_Last ((x1, x2, x3, ()), ()) ()).bind fun r1 =>
 (L_repl_Commit_2 (x4, x5, x6, x7, r1.fst, ()) ((x1, x2, x3, ()), ())).bind fun r2 =>
 Sum.elim (fun u3 =>
 K (u3.fst.snd.fst, ()))
 (fun u3 =>
 K (u3.fst.fst, ())) (r2)
noncomputable def F_repl_Commit : A_repl_Commit → M_repl_Commit → Option O_repl_Commit := fun a b => tree_repl_Commit F_rlog_Last L_repl_Commit_2 a.1.1 a.1.2.1 a.1.2.2.1 a.2.1 a.2.2.1 a.2.2.2.1 a.2.2.2.2.1 some
theorem n_repl_Commit (F_rlog_Last : A_rlog_Last → M_rlog_Last → Option O_rlog_Last) (L_repl_Commit_2 : LT_repl_Commit_2 → LM_repl_Commit_2 → Option LO_repl_Commit_2) (x1 : Int) (x2 : Int) (x3 : List (Int × Int × ByteArray)) (x4 : List Int) (x5 : List (Int × Int × Int)) (x6 : Int) (x7 : Int) {α : Type} (K : O_repl_Commit → Option α) : tree_repl_Commit F_rlog_Last L_repl_Commit_2 x1 x2 x3 x4 x5 x6 x7 K = (tree_repl_Commit F_rlog_Last L_repl_Commit_2 x1 x2 x3 x4 x5 x6 x7 some).bind K := by simp only [tree_repl_Commit, bind_cond, bind_none', bind_some', bind_bind', bind_sum]
theorem Fe_repl_Commit (x1 : Int) (x2 : Int) (x3 : List (Int × Int × ByteArray)) (x4 : List Int) (x5 : List (Int × Int × Int)) (x6 : Int) (x7 : Int) : F_repl_Commit ((x1, (x2, (x3, ()))), (x4, (x5, (x6, (x7, ()))))) () = tree_repl_Commit F_rlog_Last L_repl_Commit_2 x1 x2 x3 x4 x5 x6 x7 some := rfl

/-! countersign/repl.Send -/
def args_repl_Send : SkL := (.cons (.agg (.cons (.leaf (.int .u64)) (.cons (.leaf (.int .u64)) (.cons (.leaf (.slc 70 (.cons (.int .u64) (.cons (.int .i64) (.cons .str .nil))))) .nil)))) (.cons (.leaf (.int .u64)) (.cons (.leaf (.int .i64)) .nil)))
def mem_repl_Send : MSk := []
def outs_repl_Send : List OutC := [⟨(.tup (.cons (.leaf (.int .u64)) (.cons (.leaf (.int .u64)) (.cons (.leaf (.slc 70 (.cons (.int .u64) (.cons (.int .i64) (.cons .str .nil))))) (.cons (.leaf .bool) .nil))))), []⟩]
abbrev A_repl_Send : Type := ((Int × Int × (List (Int × Int × ByteArray)) × Unit) × Int × Int × Unit)
abbrev M_repl_Send : Type := Unit
abbrev O_repl_Send : Type := (Int × Int × (List (Int × Int × ByteArray)) × Bool × Unit) × Unit
def tree_repl_Send (F_rlog_Last : A_rlog_Last → M_rlog_Last → Option O_rlog_Last) (F_rlog_Term : A_rlog_Term → M_rlog_Term → Option O_rlog_Term) (F_rlog_Slice : A_rlog_Slice → M_rlog_Slice → Option O_rlog_Slice) {α : Type} (x1 : Int) (x2 : Int) (x3 : List (Int × Int × ByteArray)) (x4 : Int) (x5 : Int) (K : O_repl_Send → Option α) : Option α :=
 cond (decide (x4 ≤ x1))
 (K ((0, (0, ([], (false, ())))), ()))
 ((F_rlog_Last ((x1, x2, x3, ()), ()) ()).bind fun r1 =>
 cond (decide (x4 > IntKind.u64.wrap (r1.fst + 1)))
 (K ((0, (0, ([], (false, ())))), ()))
 ((F_rlog_Term ((x1, x2, x3, ()), IntKind.u64.wrap (x4 - 1), ()) ()).bind fun r2 =>
 (F_rlog_Slice ((x1, x2, x3, ()), x4, x5, ()) ()).bind fun r3 =>
 K ((IntKind.u64.wrap (x4 - 1), (r2.fst.fst, (r3.fst, (true, ())))), ())))
noncomputable def F_repl_Send : A_repl_Send → M_repl_Send → Option O_repl_Send := fun a b => tree_repl_Send F_rlog_Last F_rlog_Term F_rlog_Slice a.1.1 a.1.2.1 a.1.2.2.1 a.2.1 a.2.2.1 some
theorem n_repl_Send (F_rlog_Last : A_rlog_Last → M_rlog_Last → Option O_rlog_Last) (F_rlog_Term : A_rlog_Term → M_rlog_Term → Option O_rlog_Term) (F_rlog_Slice : A_rlog_Slice → M_rlog_Slice → Option O_rlog_Slice) (x1 : Int) (x2 : Int) (x3 : List (Int × Int × ByteArray)) (x4 : Int) (x5 : Int) {α : Type} (K : O_repl_Send → Option α) : tree_repl_Send F_rlog_Last F_rlog_Term F_rlog_Slice x1 x2 x3 x4 x5 K = (tree_repl_Send F_rlog_Last F_rlog_Term F_rlog_Slice x1 x2 x3 x4 x5 some).bind K := by simp only [tree_repl_Send, bind_cond, bind_none', bind_some', bind_bind', bind_sum]
theorem Fe_repl_Send (x1 : Int) (x2 : Int) (x3 : List (Int × Int × ByteArray)) (x4 : Int) (x5 : Int) : F_repl_Send ((x1, (x2, (x3, ()))), (x4, (x5, ()))) () = tree_repl_Send F_rlog_Last F_rlog_Term F_rlog_Slice x1 x2 x3 x4 x5 some := rfl

end Go.Proofs.Ytjhaidbfahobmaa.S2
