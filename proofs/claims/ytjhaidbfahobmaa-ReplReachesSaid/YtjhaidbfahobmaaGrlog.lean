/- Plain forms of the program's functions, by program. -/
import Derived.Test.YtjhaidbfahobmaaS2y
set_option maxRecDepth 100000
set_option maxHeartbeats 0
set_option linter.unusedVariables false
set_option linter.unusedSimpArgs false
namespace Go.Proofs.Ytjhaidbfahobmaa.S2
open Go
/-! countersign/rlog.Last -/
def args_rlog_Last : SkL := (.cons (.agg (.cons (.leaf (.int .u64)) (.cons (.leaf (.int .u64)) (.cons (.leaf (.slc 70 (.cons (.int .u64) (.cons (.int .i64) (.cons .str .nil))))) .nil)))) .nil)
def mem_rlog_Last : MSk := []
def outs_rlog_Last : List OutC := [⟨(.leaf (.int .u64)), []⟩]
abbrev A_rlog_Last : Type := ((Int × Int × (List (Int × Int × ByteArray)) × Unit) × Unit)
abbrev M_rlog_Last : Type := Unit
abbrev O_rlog_Last : Type := Int × Unit
def tree_rlog_Last {α : Type} (x1 : Int) (x2 : Int) (x3 : List (Int × Int × ByteArray)) (K : O_rlog_Last → Option α) : Option α :=
 K (IntKind.u64.wrap (x1 + IntKind.u64.wrap (↑x3.length : Int)), ())
noncomputable def F_rlog_Last : A_rlog_Last → M_rlog_Last → Option O_rlog_Last := fun a b => tree_rlog_Last a.1.1 a.1.2.1 a.1.2.2.1 some
theorem n_rlog_Last (x1 : Int) (x2 : Int) (x3 : List (Int × Int × ByteArray)) {α : Type} (K : O_rlog_Last → Option α) : tree_rlog_Last x1 x2 x3 K = (tree_rlog_Last x1 x2 x3 some).bind K := by simp only [tree_rlog_Last, bind_cond, bind_none', bind_some', bind_bind', bind_sum]
theorem Fe_rlog_Last (x1 : Int) (x2 : Int) (x3 : List (Int × Int × ByteArray)) : F_rlog_Last ((x1, (x2, (x3, ()))), ()) () = tree_rlog_Last x1 x2 x3 some := rfl

/-! countersign/rlog.Entry -/
def args_rlog_Entry : SkL := (.cons (.agg (.cons (.leaf (.int .u64)) (.cons (.leaf (.int .u64)) (.cons (.leaf (.slc 70 (.cons (.int .u64) (.cons (.int .i64) (.cons .str .nil))))) .nil)))) (.cons (.leaf (.int .u64)) .nil))
def mem_rlog_Entry : MSk := []
def outs_rlog_Entry : List OutC := [⟨(.tup (.cons (.agg (.cons (.leaf (.int .u64)) (.cons (.leaf (.int .i64)) (.cons (.leaf .str) .nil)))) (.cons (.leaf .bool) .nil))), []⟩]
abbrev A_rlog_Entry : Type := ((Int × Int × (List (Int × Int × ByteArray)) × Unit) × Int × Unit)
abbrev M_rlog_Entry : Type := Unit
abbrev O_rlog_Entry : Type := ((Int × Int × ByteArray × Unit) × Bool × Unit) × Unit
def tree_rlog_Entry {α : Type} (x1 : Int) (x2 : Int) (x3 : List (Int × Int × ByteArray)) (x4 : Int) (K : O_rlog_Entry → Option α) : Option α :=
 cond (decide (x4 ≤ x1))
 (K (((0, (0, (ByteArray.empty, ()))), (false, ())), ()))
 (cond (decide (IntKind.u64.wrap (x4 - x1) > IntKind.u64.wrap (↑x3.length : Int)))
 (K (((0, (0, (ByteArray.empty, ()))), (false, ())), ()))
 (cond (decide (0 ≤ IntKind.u64.wrap (IntKind.u64.wrap (x4 - x1) - 1)))
 (cond (decide (IntKind.u64.wrap (IntKind.u64.wrap (x4 - x1) - 1) < (↑x3.length : Int)))
 (K ((((x3.getD (IntKind.u64.wrap (IntKind.u64.wrap (x4 - x1) - 1)).toNat (0, 0, ByteArray.empty)).fst, ((x3.getD (IntKind.u64.wrap (IntKind.u64.wrap (x4 - x1) - 1)).toNat (0, 0, ByteArray.empty)).snd.fst, ((x3.getD (IntKind.u64.wrap (IntKind.u64.wrap (x4 - x1) - 1)).toNat (0, 0, ByteArray.empty)).snd.snd, ()))), (true, ())), ()))
 (none))
 (none)))
noncomputable def F_rlog_Entry : A_rlog_Entry → M_rlog_Entry → Option O_rlog_Entry := fun a b => tree_rlog_Entry a.1.1 a.1.2.1 a.1.2.2.1 a.2.1 some
theorem n_rlog_Entry (x1 : Int) (x2 : Int) (x3 : List (Int × Int × ByteArray)) (x4 : Int) {α : Type} (K : O_rlog_Entry → Option α) : tree_rlog_Entry x1 x2 x3 x4 K = (tree_rlog_Entry x1 x2 x3 x4 some).bind K := by simp only [tree_rlog_Entry, bind_cond, bind_none', bind_some', bind_bind', bind_sum]
theorem Fe_rlog_Entry (x1 : Int) (x2 : Int) (x3 : List (Int × Int × ByteArray)) (x4 : Int) : F_rlog_Entry ((x1, (x2, (x3, ()))), (x4, ())) () = tree_rlog_Entry x1 x2 x3 x4 some := rfl

/-! countersign/rlog.Term -/
def args_rlog_Term : SkL := (.cons (.agg (.cons (.leaf (.int .u64)) (.cons (.leaf (.int .u64)) (.cons (.leaf (.slc 70 (.cons (.int .u64) (.cons (.int .i64) (.cons .str .nil))))) .nil)))) (.cons (.leaf (.int .u64)) .nil))
def mem_rlog_Term : MSk := []
def outs_rlog_Term : List OutC := [⟨(.tup (.cons (.leaf (.int .u64)) (.cons (.leaf .bool) .nil))), []⟩]
abbrev A_rlog_Term : Type := ((Int × Int × (List (Int × Int × ByteArray)) × Unit) × Int × Unit)
abbrev M_rlog_Term : Type := Unit
abbrev O_rlog_Term : Type := (Int × Bool × Unit) × Unit
def tree_rlog_Term (F_rlog_Entry : A_rlog_Entry → M_rlog_Entry → Option O_rlog_Entry) {α : Type} (x1 : Int) (x2 : Int) (x3 : List (Int × Int × ByteArray)) (x4 : Int) (K : O_rlog_Term → Option α) : Option α :=
 cond (x4 == x1)
 (K ((x2, (true, ())), ()))
 ((F_rlog_Entry ((x1, x2, x3, ()), x4, ()) ()).bind fun r1 =>
 K ((r1.fst.fst.fst, (r1.fst.snd.fst, ())), ()))
noncomputable def F_rlog_Term : A_rlog_Term → M_rlog_Term → Option O_rlog_Term := fun a b => tree_rlog_Term F_rlog_Entry a.1.1 a.1.2.1 a.1.2.2.1 a.2.1 some
theorem n_rlog_Term (F_rlog_Entry : A_rlog_Entry → M_rlog_Entry → Option O_rlog_Entry) (x1 : Int) (x2 : Int) (x3 : List (Int × Int × ByteArray)) (x4 : Int) {α : Type} (K : O_rlog_Term → Option α) : tree_rlog_Term F_rlog_Entry x1 x2 x3 x4 K = (tree_rlog_Term F_rlog_Entry x1 x2 x3 x4 some).bind K := by simp only [tree_rlog_Term, bind_cond, bind_none', bind_some', bind_bind', bind_sum]
theorem Fe_rlog_Term (x1 : Int) (x2 : Int) (x3 : List (Int × Int × ByteArray)) (x4 : Int) : F_rlog_Term ((x1, (x2, (x3, ()))), (x4, ())) () = tree_rlog_Term F_rlog_Entry x1 x2 x3 x4 some := rfl

/-! slices.Grow<<>countersign/api.Entry,countersign/api.Entry> -/
def args_s_Grow_aE : SkL := (.cons (.const .nils) (.cons (.leaf (.int .i64)) .nil))
def mem_s_Grow_aE : MSk := []
def outs_s_Grow_aE : List OutC := [⟨(.const (.sl 0 0 0)), [(0, .row 70 (.cons (.int .u64) (.cons (.int .i64) (.cons .str .nil))))]⟩, ⟨(.const .nils), []⟩]
abbrev A_s_Grow_aE : Type := (Int × Unit)
abbrev M_s_Grow_aE : Type := Unit
abbrev O_s_Grow_aE : Type := (Unit × ((List (Int × Int × ByteArray)) × Unit)) ⊕ (Unit × Unit)
def tree_s_Grow_aE {α : Type} (x1 : Int) (K : O_s_Grow_aE → Option α) : Option α :=
 cond (decide (x1 < 0))
 (none)
 (cond (decide (IntKind.i64.wrap (x1 - 0) > 0))
 (cond (decide (0 < IntKind.i64.wrap (x1 - 0)))
 (cond (decide (IntKind.i64.wrap (x1 - 0) * 32 ≤ 140737488355328))
 (K (.inl ((), (List.replicate (IntKind.i64.wrap (x1 - 0)).toNat (0, 0, ByteArray.empty), ()))))
 (none))
 (none))
 (K (.inr ((), ()))))
noncomputable def F_s_Grow_aE : A_s_Grow_aE → M_s_Grow_aE → Option O_s_Grow_aE := fun a b => tree_s_Grow_aE a.1 some
theorem n_s_Grow_aE (x1 : Int) {α : Type} (K : O_s_Grow_aE → Option α) : tree_s_Grow_aE x1 K = (tree_s_Grow_aE x1 some).bind K := by simp only [tree_s_Grow_aE, bind_cond, bind_none', bind_some', bind_bind', bind_sum]
theorem Fe_s_Grow_aE (x1 : Int) : F_s_Grow_aE (x1, ()) () = tree_s_Grow_aE x1 some := rfl

/-! slices.Concat<<>countersign/api.Entry,countersign/api.Entry> -/
def args_s_Concat_aE : SkL := (.cons (.leaf (.slc 23 (.cons (.slc 70 (.cons (.int .u64) (.cons (.int .i64) (.cons .str .nil)))) .nil))) .nil)
def mem_s_Concat_aE : MSk := []
def outs_s_Concat_aE : List OutC := [⟨(.leaf (.slc 70 (.cons (.int .u64) (.cons (.int .i64) (.cons .str .nil))))), []⟩]
abbrev A_s_Concat_aE : Type := ((List ((List (Int × Int × ByteArray)))) × Unit)
abbrev M_s_Concat_aE : Type := Unit
abbrev O_s_Concat_aE : Type := (List (Int × Int × ByteArray)) × Unit
def ltmps_s_Concat_aE_3 : SkL := (.cons (.leaf (.slc 23 (.cons (.slc 70 (.cons (.int .u64) (.cons (.int .i64) (.cons .str .nil)))) .nil))) (dz 2 (.cons (.leaf (.int .i64)) (dz 5 (.cons (.leaf (.slc 23 (.cons (.slc 70 (.cons (.int .u64) (.cons (.int .i64) (.cons .str .nil)))) .nil))) (.cons (.leaf (.int .i64)) (.cons (.leaf (.int .i64)) (dz 24 .nil))))))))
def lmem_s_Concat_aE_3 : MSk := []
def louts_s_Concat_aE_3 : List OutL := [⟨(.exit 0), (.cons (.leaf (.slc 23 (.cons (.slc 70 (.cons (.int .u64) (.cons (.int .i64) (.cons .str .nil)))) .nil))) (dz 2 (.cons (.leaf (.int .i64)) (dz 32 .nil)))), []⟩]
abbrev LT_s_Concat_aE_3 : Type := ((List ((List (Int × Int × ByteArray)))) × Int × (List ((List (Int × Int × ByteArray)))) × Int × Int × Unit)
abbrev LM_s_Concat_aE_3 : Type := Unit
abbrev LO_s_Concat_aE_3 : Type := ((List ((List (Int × Int × ByteArray)))) × Int × Unit) × Unit
def ltree_s_Concat_aE_3 {α : Type} (x1 : List ((List (Int × Int × ByteArray)))) (x2 : Int) (x3 : List ((List (Int × Int × ByteArray)))) (x4 : Int) (x5 : Int) (kn : LT_s_Concat_aE_3 → LM_s_Concat_aE_3 → Option α) (kr : LO_s_Concat_aE_3 → Option α) : Option α :=
 cond (decide (x5 < x4))
 (cond (decide (0 ≤ x5))
 (cond (decide (x5 < (↑x3.length : Int)))
 (cond (decide (IntKind.i64.wrap (x2 + (↑(x3.getD x5.toNat []).length : Int)) < 0))
 (none)
 (kn (x1, (IntKind.i64.wrap (x2 + (↑(x3.getD x5.toNat []).length : Int)), (x3, (x4, (IntKind.i64.wrap (x5 + 1), ()))))) ()))
 (none))
 (none))
 (kr ((x1, (x2, ())), ()))
noncomputable def L_s_Concat_aE_3 : LT_s_Concat_aE_3 → LM_s_Concat_aE_3 → Option LO_s_Concat_aE_3 := fun x y => runL (fun p => (fun (a : LT_s_Concat_aE_3) (b : LM_s_Concat_aE_3) => ltree_s_Concat_aE_3 a.1 a.2.1 a.2.2.1 a.2.2.2.1 a.2.2.2.2.1 (fun a' b' => some (.inl (a', b'))) fun r => some (.inr r)) p.1 p.2) (x, y)
theorem nl_s_Concat_aE_3 (x1 : List ((List (Int × Int × ByteArray)))) (x2 : Int) (x3 : List ((List (Int × Int × ByteArray)))) (x4 : Int) (x5 : Int) {α : Type} (kn : LT_s_Concat_aE_3 → LM_s_Concat_aE_3 → Option α) (kr : LO_s_Concat_aE_3 → Option α) : ltree_s_Concat_aE_3 x1 x2 x3 x4 x5 kn kr = (ltree_s_Concat_aE_3 x1 x2 x3 x4 x5 (fun a b => some (.inl (a, b))) fun r => some (.inr r)).bind (Sum.elim (fun p : LT_s_Concat_aE_3 × LM_s_Concat_aE_3 => kn p.1 p.2) kr) := by simp only [ltree_s_Concat_aE_3, bind_cond, bind_none', bind_some', bind_bind', bind_sum, Sum.elim_inl, Sum.elim_inr]
theorem Le_s_Concat_aE_3 (x1 : List ((List (Int × Int × ByteArray)))) (x2 : Int) (x3 : List ((List (Int × Int × ByteArray)))) (x4 : Int) (x5 : Int) : L_s_Concat_aE_3 (x1, (x2, (x3, (x4, (x5, ()))))) () = ltree_s_Concat_aE_3 x1 x2 x3 x4 x5 L_s_Concat_aE_3 some := runL_tree (A := LT_s_Concat_aE_3) (B := LM_s_Concat_aE_3) (R := LO_s_Concat_aE_3) (fun a b kn kr => ltree_s_Concat_aE_3 a.1 a.2.1 a.2.2.1 a.2.2.2.1 a.2.2.2.2.1 kn kr) (fun a b kn kr => nl_s_Concat_aE_3 a.1 a.2.1 a.2.2.1 a.2.2.2.1 a.2.2.2.2.1 kn kr) (x1, (x2, (x3, (x4, (x5, ()))))) ()
def ltmps_s_Concat_aE_11 : SkL := (dz 6 (.cons (.const (.slw 506)) (dz 18 (.cons (.leaf (.slc 23 (.cons (.slc 70 (.cons (.int .u64) (.cons (.int .i64) (.cons .str .nil)))) .nil))) (.cons (.leaf (.int .i64)) (.cons (.leaf (.int .i64)) (dz 8 .nil)))))))
def lmem_s_Concat_aE_11 : MSk := [(506, .row 70 (.cons (.int .u64) (.cons (.int .i64) (.cons .str .nil))))]
def louts_s_Concat_aE_11 : List OutL := [⟨(.exit 2), (dz 6 (.cons (.const (.slw 506)) (dz 29 .nil))), [(506, .row 70 (.cons (.int .u64) (.cons (.int .i64) (.cons .str .nil))))]⟩]
abbrev LT_s_Concat_aE_11 : Type := ((List ((List (Int × Int × ByteArray)))) × Int × Int × Unit)
abbrev LM_s_Concat_aE_11 : Type := ((List (Int × Int × ByteArray)) × Unit)
abbrev LO_s_Concat_aE_11 : Type := Unit × ((List (Int × Int × ByteArray)) × Unit)
def ltree_s_Concat_aE_11 {α : Type} (x1 : List ((List (Int × Int × ByteArray)))) (x2 : Int) (x3 : Int) (x4 : List (Int × Int × ByteArray)) (kn : LT_s_Concat_aE_11 → LM_s_Concat_aE_11 → Option α) (kr : LO_s_Concat_aE_11 → Option α) : Option α :=
 cond (decide (x3 < x2))
 (cond (decide (0 ≤ x3))
 (cond (decide (x3 < (↑x1.length : Int)))
 (cond (decide ((x4.length + (x1.getD x3.toNat []).length) * 32 ≤ 140737488355328))
 (kn (x1, (x2, (IntKind.i64.wrap (x3 + 1), ()))) (x4 ++ x1.getD x3.toNat [], ()))
 (none))
 (none))
 (none))
 (kr ((), (x4, ())))
noncomputable def L_s_Concat_aE_11 : LT_s_Concat_aE_11 → LM_s_Concat_aE_11 → Option LO_s_Concat_aE_11 := fun x y => runL (fun p => (fun (a : LT_s_Concat_aE_11) (b : LM_s_Concat_aE_11) => ltree_s_Concat_aE_11 a.1 a.2.1 a.2.2.1 b.1 (fun a' b' => some (.inl (a', b'))) fun r => some (.inr r)) p.1 p.2) (x, y)
theorem nl_s_Concat_aE_11 (x1 : List ((List (Int × Int × ByteArray)))) (x2 : Int) (x3 : Int) (x4 : List (Int × Int × ByteArray)) {α : Type} (kn : LT_s_Concat_aE_11 → LM_s_Concat_aE_11 → Option α) (kr : LO_s_Concat_aE_11 → Option α) : ltree_s_Concat_aE_11 x1 x2 x3 x4 kn kr = (ltree_s_Concat_aE_11 x1 x2 x3 x4 (fun a b => some (.inl (a, b))) fun r => some (.inr r)).bind (Sum.elim (fun p : LT_s_Concat_aE_11 × LM_s_Concat_aE_11 => kn p.1 p.2) kr) := by simp only [ltree_s_Concat_aE_11, bind_cond, bind_none', bind_some', bind_bind', bind_sum, Sum.elim_inl, Sum.elim_inr]
theorem Le_s_Concat_aE_11 (x1 : List ((List (Int × Int × ByteArray)))) (x2 : Int) (x3 : Int) (x4 : List (Int × Int × ByteArray)) : L_s_Concat_aE_11 (x1, (x2, (x3, ()))) (x4, ()) = ltree_s_Concat_aE_11 x1 x2 x3 x4 L_s_Concat_aE_11 some := runL_tree (A := LT_s_Concat_aE_11) (B := LM_s_Concat_aE_11) (R := LO_s_Concat_aE_11) (fun a b kn kr => ltree_s_Concat_aE_11 a.1 a.2.1 a.2.2.1 b.1 kn kr) (fun a b kn kr => nl_s_Concat_aE_11 a.1 a.2.1 a.2.2.1 b.1 kn kr) (x1, (x2, (x3, ()))) (x4, ())
def tree_s_Concat_aE (F_s_Grow_aE : A_s_Grow_aE → M_s_Grow_aE → Option O_s_Grow_aE) (L_s_Concat_aE_3 : LT_s_Concat_aE_3 → LM_s_Concat_aE_3 → Option LO_s_Concat_aE_3) (L_s_Concat_aE_11 : LT_s_Concat_aE_11 → LM_s_Concat_aE_11 → Option LO_s_Concat_aE_11) {α : Type} (x1 : List ((List (Int × Int × ByteArray)))) (K : O_s_Concat_aE → Option α) : Option α :=
 (L_s_Concat_aE_3 (x1, 0, x1, (↑x1.length : Int), 0, ()) ()).bind fun r1 =>
 (F_s_Grow_aE (r1.fst.snd.fst, ()) ()).bind fun r2 =>
 Sum.elim (fun u3 =>
 (L_s_Concat_aE_11 (r1.fst.fst, (↑r1.fst.fst.length : Int), 0, ()) (List.take 0 (List.drop 0 u3.snd.fst), ())).bind fun r4 =>
 K (r4.snd.fst, ()))
 (fun u3 =>
 (L_s_Concat_aE_11 (r1.fst.fst, (↑r1.fst.fst.length : Int), 0, ()) ([], ())).bind fun r5 =>
 K (r5.snd.fst, ())) (r2)
noncomputable def F_s_Concat_aE : A_s_Concat_aE → M_s_Concat_aE → Option O_s_Concat_aE := fun a b => tree_s_Concat_aE F_s_Grow_aE L_s_Concat_aE_3 L_s_Concat_aE_11 a.1 some
theorem n_s_Concat_aE (F_s_Grow_aE : A_s_Grow_aE → M_s_Grow_aE → Option O_s_Grow_aE) (L_s_Concat_aE_3 : LT_s_Concat_aE_3 → LM_s_Concat_aE_3 → Option LO_s_Concat_aE_3) (L_s_Concat_aE_11 : LT_s_Concat_aE_11 → LM_s_Concat_aE_11 → Option LO_s_Concat_aE_11) (x1 : List ((List (Int × Int × ByteArray)))) {α : Type} (K : O_s_Concat_aE → Option α) : tree_s_Concat_aE F_s_Grow_aE L_s_Concat_aE_3 L_s_Concat_aE_11 x1 K = (tree_s_Concat_aE F_s_Grow_aE L_s_Concat_aE_3 L_s_Concat_aE_11 x1 some).bind K := by simp only [tree_s_Concat_aE, bind_cond, bind_none', bind_some', bind_bind', bind_sum]
theorem Fe_s_Concat_aE (x1 : List ((List (Int × Int × ByteArray)))) : F_s_Concat_aE (x1, ()) () = tree_s_Concat_aE F_s_Grow_aE L_s_Concat_aE_3 L_s_Concat_aE_11 x1 some := rfl

/-! slices.Clone<<>countersign/api.Entry,countersign/api.Entry> -/
def args_s_Clone_aE : SkL := (.cons (.leaf (.slc 70 (.cons (.int .u64) (.cons (.int .i64) (.cons .str .nil))))) .nil)
def mem_s_Clone_aE : MSk := []
def outs_s_Clone_aE : List OutC := [⟨(.leaf (.slc 70 (.cons (.int .u64) (.cons (.int .i64) (.cons .str .nil))))), []⟩]
abbrev A_s_Clone_aE : Type := ((List (Int × Int × ByteArray)) × Unit)
abbrev M_s_Clone_aE : Type := Unit
abbrev O_s_Clone_aE : Type := (List (Int × Int × ByteArray)) × Unit
def tree_s_Clone_aE {α : Type} (x1 : List (Int × Int × ByteArray)) (K : O_s_Clone_aE → Option α) : Option α :=
 cond (decide (0 < x1.length))
 (cond (decide ((0 + x1.length) * 32 ≤ 140737488355328))
 (K ([] ++ x1, ()))
 (none))
 (none)
theorem n_s_Clone_aE (x1 : List (Int × Int × ByteArray)) {α : Type} (K : O_s_Clone_aE → Option α) : tree_s_Clone_aE x1 K = (tree_s_Clone_aE x1 some).bind K := by simp only [tree_s_Clone_aE, bind_cond, bind_none', bind_some', bind_bind', bind_sum]
def F_s_Clone_aE : A_s_Clone_aE → M_s_Clone_aE → Option O_s_Clone_aE := fun a b => cond (decide (a.1.length * 32 ≤ 140737488355328)) (some (a.1, ())) none

/-! countersign/rlog.Slice -/
def args_rlog_Slice : SkL := (.cons (.agg (.cons (.leaf (.int .u64)) (.cons (.leaf (.int .u64)) (.cons (.leaf (.slc 70 (.cons (.int .u64) (.cons (.int .i64) (.cons .str .nil))))) .nil)))) (.cons (.leaf (.int .u64)) (.cons (.leaf (.int .i64)) .nil)))
def mem_rlog_Slice : MSk := []
def outs_rlog_Slice : List OutC := [⟨(.leaf (.slc 70 (.cons (.int .u64) (.cons (.int .i64) (.cons .str .nil))))), []⟩]
abbrev A_rlog_Slice : Type := ((Int × Int × (List (Int × Int × ByteArray)) × Unit) × Int × Int × Unit)
abbrev M_rlog_Slice : Type := Unit
abbrev O_rlog_Slice : Type := (List (Int × Int × ByteArray)) × Unit
def tree_rlog_Slice (F_rlog_Last : A_rlog_Last → M_rlog_Last → Option O_rlog_Last) (F_s_Clone_aE : A_s_Clone_aE → M_s_Clone_aE → Option O_s_Clone_aE) {α : Type} (x1 : Int) (x2 : Int) (x3 : List (Int × Int × ByteArray)) (x4 : Int) (x5 : Int) (K : O_rlog_Slice → Option α) : Option α :=
 cond (decide (x5 < 1))
 (K ([], ()))
 ((F_rlog_Last ((x1, x2, x3, ()), ()) ()).bind fun r1 =>
 cond (decide ((if IntKind.u64.wrap (x1 + 1) > x4 then IntKind.u64.wrap (x1 + 1) else x4) > r1.fst))
 (K ([], ()))
 (cond (decide (0 ≤ IntKind.u64.wrap (IntKind.u64.wrap ((if IntKind.u64.wrap (x1 + 1) > x4 then IntKind.u64.wrap (x1 + 1) else x4) - x1) - 1)))
 (cond (decide (IntKind.u64.wrap (IntKind.u64.wrap ((if IntKind.u64.wrap (x1 + 1) > x4 then IntKind.u64.wrap (x1 + 1) else x4) - x1) - 1) ≤ (↑x3.length : Int)))
 (cond (decide (0 ≤ if x5 < (↑(List.drop (IntKind.u64.wrap (IntKind.u64.wrap ((if IntKind.u64.wrap (x1 + 1) > x4 then IntKind.u64.wrap (x1 + 1) else x4) - x1) - 1)).toNat (List.take x3.length x3)).length : Int) then x5 else (↑(List.drop (IntKind.u64.wrap (IntKind.u64.wrap ((if IntKind.u64.wrap (x1 + 1) > x4 then IntKind.u64.wrap (x1 + 1) else x4) - x1) - 1)).toNat (List.take x3.length x3)).length : Int)))
 (cond (decide ((if x5 < (↑(List.drop (IntKind.u64.wrap (IntKind.u64.wrap ((if IntKind.u64.wrap (x1 + 1) > x4 then IntKind.u64.wrap (x1 + 1) else x4) - x1) - 1)).toNat (List.take x3.length x3)).length : Int) then x5 else (↑(List.drop (IntKind.u64.wrap (IntKind.u64.wrap ((if IntKind.u64.wrap (x1 + 1) > x4 then IntKind.u64.wrap (x1 + 1) else x4) - x1) - 1)).toNat (List.take x3.length x3)).length : Int)) ≤ (↑(List.drop (IntKind.u64.wrap (IntKind.u64.wrap ((if IntKind.u64.wrap (x1 + 1) > x4 then IntKind.u64.wrap (x1 + 1) else x4) - x1) - 1)).toNat (List.take x3.length x3)).length : Int)))
 ((F_s_Clone_aE (List.drop 0 (List.take (if x5 < (↑(List.drop (IntKind.u64.wrap (IntKind.u64.wrap ((if IntKind.u64.wrap (x1 + 1) > x4 then IntKind.u64.wrap (x1 + 1) else x4) - x1) - 1)).toNat (List.take x3.length x3)).length : Int) then x5 else (↑(List.drop (IntKind.u64.wrap (IntKind.u64.wrap ((if IntKind.u64.wrap (x1 + 1) > x4 then IntKind.u64.wrap (x1 + 1) else x4) - x1) - 1)).toNat (List.take x3.length x3)).length : Int)).toNat (List.drop (IntKind.u64.wrap (IntKind.u64.wrap ((if IntKind.u64.wrap (x1 + 1) > x4 then IntKind.u64.wrap (x1 + 1) else x4) - x1) - 1)).toNat (List.take x3.length x3))), ()) ()).bind fun r2 =>
 K (r2.fst, ()))
 (none))
 (none))
 (none))
 (none)))
noncomputable def F_rlog_Slice : A_rlog_Slice → M_rlog_Slice → Option O_rlog_Slice := fun a b => tree_rlog_Slice F_rlog_Last F_s_Clone_aE a.1.1 a.1.2.1 a.1.2.2.1 a.2.1 a.2.2.1 some
theorem n_rlog_Slice (F_rlog_Last : A_rlog_Last → M_rlog_Last → Option O_rlog_Last) (F_s_Clone_aE : A_s_Clone_aE → M_s_Clone_aE → Option O_s_Clone_aE) (x1 : Int) (x2 : Int) (x3 : List (Int × Int × ByteArray)) (x4 : Int) (x5 : Int) {α : Type} (K : O_rlog_Slice → Option α) : tree_rlog_Slice F_rlog_Last F_s_Clone_aE x1 x2 x3 x4 x5 K = (tree_rlog_Slice F_rlog_Last F_s_Clone_aE x1 x2 x3 x4 x5 some).bind K := by simp only [tree_rlog_Slice, bind_cond, bind_none', bind_some', bind_bind', bind_sum]
theorem Fe_rlog_Slice (x1 : Int) (x2 : Int) (x3 : List (Int × Int × ByteArray)) (x4 : Int) (x5 : Int) : F_rlog_Slice ((x1, (x2, (x3, ()))), (x4, (x5, ()))) () = tree_rlog_Slice F_rlog_Last F_s_Clone_aE x1 x2 x3 x4 x5 some := rfl

/-! countersign/rlog.with -/
def args_rlog_with : SkL := (.cons (.agg (.cons (.leaf (.int .u64)) (.cons (.leaf (.int .u64)) (.cons (.leaf (.slc 70 (.cons (.int .u64) (.cons (.int .i64) (.cons .str .nil))))) .nil)))) (.cons (.leaf (.slc 70 (.cons (.int .u64) (.cons (.int .i64) (.cons .str .nil))))) .nil))
def mem_rlog_with : MSk := []
def outs_rlog_with : List OutC := [⟨(.agg (.cons (.leaf (.int .u64)) (.cons (.leaf (.int .u64)) (.cons (.leaf (.slc 70 (.cons (.int .u64) (.cons (.int .i64) (.cons .str .nil))))) .nil)))), []⟩]
abbrev A_rlog_with : Type := ((Int × Int × (List (Int × Int × ByteArray)) × Unit) × (List (Int × Int × ByteArray)) × Unit)
abbrev M_rlog_with : Type := Unit
abbrev O_rlog_with : Type := (Int × Int × (List (Int × Int × ByteArray)) × Unit) × Unit
def tree_rlog_with (F_s_Clone_aE : A_s_Clone_aE → M_s_Clone_aE → Option O_s_Clone_aE) {α : Type} (x1 : Int) (x2 : Int) (x3 : List (Int × Int × ByteArray)) (x4 : List (Int × Int × ByteArray)) (K : O_rlog_with → Option α) : Option α :=
 (F_s_Clone_aE (x4, ()) ()).bind fun r1 =>
 K ((x1, (x2, (r1.fst, ()))), ())
noncomputable def F_rlog_with : A_rlog_with → M_rlog_with → Option O_rlog_with := fun a b => tree_rlog_with F_s_Clone_aE a.1.1 a.1.2.1 a.1.2.2.1 a.2.1 some
theorem n_rlog_with (F_s_Clone_aE : A_s_Clone_aE → M_s_Clone_aE → Option O_s_Clone_aE) (x1 : Int) (x2 : Int) (x3 : List (Int × Int × ByteArray)) (x4 : List (Int × Int × ByteArray)) {α : Type} (K : O_rlog_with → Option α) : tree_rlog_with F_s_Clone_aE x1 x2 x3 x4 K = (tree_rlog_with F_s_Clone_aE x1 x2 x3 x4 some).bind K := by simp only [tree_rlog_with, bind_cond, bind_none', bind_some', bind_bind', bind_sum]
theorem Fe_rlog_with (x1 : Int) (x2 : Int) (x3 : List (Int × Int × ByteArray)) (x4 : List (Int × Int × ByteArray)) : F_rlog_with ((x1, (x2, (x3, ()))), (x4, ())) () = tree_rlog_with F_s_Clone_aE x1 x2 x3 x4 some := rfl

/-! countersign/rlog.cover -/
def args_rlog_cover : SkL := (.cons (.agg (.cons (.leaf (.int .u64)) (.cons (.leaf (.int .u64)) (.cons (.leaf (.slc 70 (.cons (.int .u64) (.cons (.int .i64) (.cons .str .nil))))) .nil)))) (.cons (.leaf (.int .u64)) (.cons (.leaf (.int .u64)) (.cons (.leaf (.slc 70 (.cons (.int .u64) (.cons (.int .i64) (.cons .str .nil))))) .nil))))
def mem_rlog_cover : MSk := []
def outs_rlog_cover : List OutC := [⟨(.tup (.cons (.leaf (.int .u64)) (.cons (.leaf (.int .u64)) (.cons (.leaf (.slc 70 (.cons (.int .u64) (.cons (.int .i64) (.cons .str .nil))))) (.cons (.leaf .bool) .nil))))), []⟩]
abbrev A_rlog_cover : Type := ((Int × Int × (List (Int × Int × ByteArray)) × Unit) × Int × Int × (List (Int × Int × ByteArray)) × Unit)
abbrev M_rlog_cover : Type := Unit
abbrev O_rlog_cover : Type := (Int × Int × (List (Int × Int × ByteArray)) × Bool × Unit) × Unit
def tree_rlog_cover {α : Type} (x1 : Int) (x2 : Int) (x3 : List (Int × Int × ByteArray)) (x4 : Int) (x5 : Int) (x6 : List (Int × Int × ByteArray)) (K : O_rlog_cover → Option α) : Option α :=
 cond (decide (x4 ≥ x1))
 (K ((x4, (x5, (x6, (true, ())))), ()))
 (cond (decide (IntKind.u64.wrap (↑x6.length : Int) < IntKind.u64.wrap (x1 - x4)))
 (K ((0, (0, ([], (false, ())))), ()))
 (cond (decide (0 ≤ IntKind.u64.wrap (x1 - x4)))
 (cond (decide (IntKind.u64.wrap (x1 - x4) ≤ (↑x6.length : Int)))
 (K ((x1, (x2, (List.drop (IntKind.u64.wrap (x1 - x4)).toNat (List.take x6.length x6), (true, ())))), ()))
 (none))
 (none)))
noncomputable def F_rlog_cover : A_rlog_cover → M_rlog_cover → Option O_rlog_cover := fun a b => tree_rlog_cover a.1.1 a.1.2.1 a.1.2.2.1 a.2.1 a.2.2.1 a.2.2.2.1 some
theorem n_rlog_cover (x1 : Int) (x2 : Int) (x3 : List (Int × Int × ByteArray)) (x4 : Int) (x5 : Int) (x6 : List (Int × Int × ByteArray)) {α : Type} (K : O_rlog_cover → Option α) : tree_rlog_cover x1 x2 x3 x4 x5 x6 K = (tree_rlog_cover x1 x2 x3 x4 x5 x6 some).bind K := by simp only [tree_rlog_cover, bind_cond, bind_none', bind_some', bind_bind', bind_sum]
theorem Fe_rlog_cover (x1 : Int) (x2 : Int) (x3 : List (Int × Int × ByteArray)) (x4 : Int) (x5 : Int) (x6 : List (Int × Int × ByteArray)) : F_rlog_cover ((x1, (x2, (x3, ()))), (x4, (x5, (x6, ())))) () = tree_rlog_cover x1 x2 x3 x4 x5 x6 some := rfl

/-! countersign/rlog.Merge -/
def args_rlog_Merge : SkL := (.cons (.agg (.cons (.leaf (.int .u64)) (.cons (.leaf (.int .u64)) (.cons (.leaf (.slc 70 (.cons (.int .u64) (.cons (.int .i64) (.cons .str .nil))))) .nil)))) (.cons (.leaf (.int .u64)) (.cons (.leaf (.int .u64)) (.cons (.leaf (.slc 70 (.cons (.int .u64) (.cons (.int .i64) (.cons .str .nil))))) .nil))))
def mem_rlog_Merge : MSk := []
def outs_rlog_Merge : List OutC := [⟨(.tup (.cons (.agg (.cons (.leaf (.int .u64)) (.cons (.leaf (.int .u64)) (.cons (.leaf (.slc 70 (.cons (.int .u64) (.cons (.int .i64) (.cons .str .nil))))) .nil)))) (.cons (.leaf (.int .u64)) (.cons (.leaf .bool) .nil)))), []⟩]
abbrev A_rlog_Merge : Type := ((Int × Int × (List (Int × Int × ByteArray)) × Unit) × Int × Int × (List (Int × Int × ByteArray)) × Unit)
abbrev M_rlog_Merge : Type := Unit
abbrev O_rlog_Merge : Type := ((Int × Int × (List (Int × Int × ByteArray)) × Unit) × Int × Bool × Unit) × Unit
def ltmps_rlog_Merge_13 : SkL := (dz 3 (.cons (.leaf (.slc 70 (.cons (.int .u64) (.cons (.int .i64) (.cons .str .nil))))) (.cons (.const (.ptr 1128 0 0)) (dz 3 (.cons (.const (.ptr 1256 0 0)) (dz 2 (.cons (.const (.ptr 1352 0 0)) (.cons (.leaf (.int .u64)) (dz 3 (.cons (.leaf (.int .i64)) (dz 55 (.cons (.leaf (.slc 70 (.cons (.int .u64) (.cons (.int .i64) (.cons .str .nil))))) (.cons (.leaf (.int .i64)) (.cons (.leaf (.int .i64)) (dz 47 .nil)))))))))))))))
def lmem_rlog_Merge_13 : MSk := [(1128, .cells (.cons (.leaf (.int .u64)) (.cons (.leaf (.int .u64)) (.cons (.leaf (.slc 70 (.cons (.int .u64) (.cons (.int .i64) (.cons .str .nil))))) .nil)))), (1256, .cells (.cons (.leaf (.int .u64)) (.cons (.leaf (.int .u64)) (.cons (.const .nils) .nil)))), (1352, .cells (.cons (.leaf (.int .u64)) (.cons (.leaf (.int .u64)) (.cons (.leaf (.slc 70 (.cons (.int .u64) (.cons (.int .i64) (.cons .str .nil))))) .nil))))]
def louts_rlog_Merge_13 : List OutL := [⟨.ret, (dz 8 (.cons (.const (.ptr 1256 0 0)) (.cons (.leaf (.int .u64)) (.cons (.leaf .bool) (.cons (.const (.ptr 1352 0 0)) (.cons (.leaf (.int .u64)) (dz 109 .nil))))))), [(1256, .cells (.cons (.leaf (.int .u64)) (.cons (.leaf (.int .u64)) (.cons (.leaf (.slc 70 (.cons (.int .u64) (.cons (.int .i64) (.cons .str .nil))))) .nil)))), (1352, .cells (.cons (.leaf (.int .u64)) (.cons (.leaf (.int .u64)) (.cons (.leaf (.slc 70 (.cons (.int .u64) (.cons (.int .i64) (.cons .str .nil))))) .nil))))]⟩, ⟨(.exit 0), (dz 8 (.cons (.const (.ptr 1256 0 0)) (dz 2 (.cons (.const (.ptr 1352 0 0)) (.cons (.leaf (.int .u64)) (dz 109 .nil)))))), [(1256, .cells (.cons (.leaf (.int .u64)) (.cons (.leaf (.int .u64)) (.cons (.const .nils) .nil)))), (1352, .cells (.cons (.leaf (.int .u64)) (.cons (.leaf (.int .u64)) (.cons (.leaf (.slc 70 (.cons (.int .u64) (.cons (.int .i64) (.cons .str .nil))))) .nil))))]⟩]
abbrev LT_rlog_Merge_13 : Type := ((List (Int × Int × ByteArray)) × Int × Int × (List (Int × Int × ByteArray)) × Int × Int × Unit)
abbrev LM_rlog_Merge_13 : Type := ((Int × Int × (List (Int × Int × ByteArray)) × Unit) × (Int × Int × Unit) × (Int × Int × (List (Int × Int × ByteArray)) × Unit) × Unit)
abbrev LO_rlog_Merge_13 : Type := ((Int × Bool × Int × Unit) × ((Int × Int × (List (Int × Int × ByteArray)) × Unit) × (Int × Int × (List (Int × Int × ByteArray)) × Unit) × Unit)) ⊕ ((Int × Unit) × ((Int × Int × Unit) × (Int × Int × (List (Int × Int × ByteArray)) × Unit) × Unit))
def ltree_rlog_Merge_13 (F_rlog_with : A_rlog_with → M_rlog_with → Option O_rlog_with) (F_s_Concat_aE : A_s_Concat_aE → M_s_Concat_aE → Option O_s_Concat_aE) {α : Type} (x1 : List (Int × Int × ByteArray)) (x2 : Int) (x3 : Int) (x4 : List (Int × Int × ByteArray)) (x5 : Int) (x6 : Int) (x7 : Int) (x8 : Int) (x9 : List (Int × Int × ByteArray)) (x10 : Int) (x11 : Int) (x12 : Int) (x13 : Int) (x14 : List (Int × Int × ByteArray)) (kn : LT_rlog_Merge_13 → LM_rlog_Merge_13 → Option α) (kr : LO_rlog_Merge_13 → Option α) : Option α :=
 cond (decide (x6 < x5))
 (cond (decide (0 ≤ x6))
 (cond (decide (x6 < (↑x4.length : Int)))
 (cond (decide (IntKind.i64.wrap (x3 + x6) < (↑x9.length : Int)))
 (cond (decide (0 ≤ IntKind.i64.wrap (x3 + x6)))
 (cond (decide (IntKind.i64.wrap (x3 + x6) < (↑x9.length : Int)))
 (cond ((x9.getD (IntKind.i64.wrap (x3 + x6)).toNat (0, 0, ByteArray.empty)).fst == (x4.getD x6.toNat (0, 0, ByteArray.empty)).fst)
 (kn (x1, (x2, (x3, (x4, (x5, (IntKind.i64.wrap (x6 + 1), ())))))) ((x7, (x8, (x9, ()))), ((x10, (x11, ())), ((x12, (x13, (x14, ()))), ()))))
 (cond (decide (IntKind.i64.wrap (x3 + (↑x1.length : Int)) > 256))
 (kr (.inl ((0, (false, (x2, ()))), ((x12, (x13, (x14, ()))), ((x12, (x13, (x14, ()))), ())))))
 (cond (decide (0 ≤ IntKind.i64.wrap (x3 + x6)))
 (cond (decide (IntKind.i64.wrap (x3 + x6) ≤ (↑x9.length : Int)))
 (cond (decide (0 ≤ x6))
 (cond (decide (x6 ≤ (↑x1.length : Int)))
 ((F_s_Concat_aE ([] ++ [List.drop 0 (List.take (IntKind.i64.wrap (x3 + x6)).toNat x9)] ++ [List.drop x6.toNat (List.take x1.length x1)], ()) ()).bind fun r1 =>
 (F_rlog_with ((x7, x8, x9, ()), r1.fst, ()) ()).bind fun r2 =>
 kr (.inl ((x2, (true, (x2, ()))), ((r2.fst.fst, (r2.fst.snd.fst, (r2.fst.snd.snd.fst, ()))), ((x12, (x13, (x14, ()))), ())))))
 (none))
 (none))
 (none))
 (none))))
 (none))
 (none))
 (cond (decide (IntKind.i64.wrap (x3 + (↑x1.length : Int)) > 256))
 (kr (.inl ((0, (false, (x2, ()))), ((x12, (x13, (x14, ()))), ((x12, (x13, (x14, ()))), ())))))
 (cond (decide (0 ≤ IntKind.i64.wrap (x3 + x6)))
 (cond (decide (IntKind.i64.wrap (x3 + x6) ≤ (↑x9.length : Int)))
 (cond (decide (0 ≤ x6))
 (cond (decide (x6 ≤ (↑x1.length : Int)))
 ((F_s_Concat_aE ([] ++ [List.drop 0 (List.take (IntKind.i64.wrap (x3 + x6)).toNat x9)] ++ [List.drop x6.toNat (List.take x1.length x1)], ()) ()).bind fun r3 =>
 (F_rlog_with ((x7, x8, x9, ()), r3.fst, ()) ()).bind fun r4 =>
 kr (.inl ((x2, (true, (x2, ()))), ((r4.fst.fst, (r4.fst.snd.fst, (r4.fst.snd.snd.fst, ()))), ((x12, (x13, (x14, ()))), ())))))
 (none))
 (none))
 (none))
 (none))))
 (none))
 (none))
 (kr (.inr ((x2, ()), ((x10, (x11, ())), ((x12, (x13, (x14, ()))), ())))))
noncomputable def L_rlog_Merge_13 : LT_rlog_Merge_13 → LM_rlog_Merge_13 → Option LO_rlog_Merge_13 := fun x y => runL (fun p => (fun (a : LT_rlog_Merge_13) (b : LM_rlog_Merge_13) => ltree_rlog_Merge_13 F_rlog_with F_s_Concat_aE a.1 a.2.1 a.2.2.1 a.2.2.2.1 a.2.2.2.2.1 a.2.2.2.2.2.1 b.1.1 b.1.2.1 b.1.2.2.1 b.2.1.1 b.2.1.2.1 b.2.2.1.1 b.2.2.1.2.1 b.2.2.1.2.2.1 (fun a' b' => some (.inl (a', b'))) fun r => some (.inr r)) p.1 p.2) (x, y)
theorem nl_rlog_Merge_13 (F_rlog_with : A_rlog_with → M_rlog_with → Option O_rlog_with) (F_s_Concat_aE : A_s_Concat_aE → M_s_Concat_aE → Option O_s_Concat_aE) (x1 : List (Int × Int × ByteArray)) (x2 : Int) (x3 : Int) (x4 : List (Int × Int × ByteArray)) (x5 : Int) (x6 : Int) (x7 : Int) (x8 : Int) (x9 : List (Int × Int × ByteArray)) (x10 : Int) (x11 : Int) (x12 : Int) (x13 : Int) (x14 : List (Int × Int × ByteArray)) {α : Type} (kn : LT_rlog_Merge_13 → LM_rlog_Merge_13 → Option α) (kr : LO_rlog_Merge_13 → Option α) : ltree_rlog_Merge_13 F_rlog_with F_s_Concat_aE x1 x2 x3 x4 x5 x6 x7 x8 x9 x10 x11 x12 x13 x14 kn kr = (ltree_rlog_Merge_13 F_rlog_with F_s_Concat_aE x1 x2 x3 x4 x5 x6 x7 x8 x9 x10 x11 x12 x13 x14 (fun a b => some (.inl (a, b))) fun r => some (.inr r)).bind (Sum.elim (fun p : LT_rlog_Merge_13 × LM_rlog_Merge_13 => kn p.1 p.2) kr) := by simp only [ltree_rlog_Merge_13, bind_cond, bind_none', bind_some', bind_bind', bind_sum, Sum.elim_inl, Sum.elim_inr]
theorem Le_rlog_Merge_13 (x1 : List (Int × Int × ByteArray)) (x2 : Int) (x3 : Int) (x4 : List (Int × Int × ByteArray)) (x5 : Int) (x6 : Int) (x7 : Int) (x8 : Int) (x9 : List (Int × Int × ByteArray)) (x10 : Int) (x11 : Int) (x12 : Int) (x13 : Int) (x14 : List (Int × Int × ByteArray)) : L_rlog_Merge_13 (x1, (x2, (x3, (x4, (x5, (x6, ())))))) ((x7, (x8, (x9, ()))), ((x10, (x11, ())), ((x12, (x13, (x14, ()))), ()))) = ltree_rlog_Merge_13 F_rlog_with F_s_Concat_aE x1 x2 x3 x4 x5 x6 x7 x8 x9 x10 x11 x12 x13 x14 L_rlog_Merge_13 some := runL_tree (A := LT_rlog_Merge_13) (B := LM_rlog_Merge_13) (R := LO_rlog_Merge_13) (fun a b kn kr => ltree_rlog_Merge_13 F_rlog_with F_s_Concat_aE a.1 a.2.1 a.2.2.1 a.2.2.2.1 a.2.2.2.2.1 a.2.2.2.2.2.1 b.1.1 b.1.2.1 b.1.2.2.1 b.2.1.1 b.2.1.2.1 b.2.2.1.1 b.2.2.1.2.1 b.2.2.1.2.2.1 kn kr) (fun a b kn kr => nl_rlog_Merge_13 F_rlog_with F_s_Concat_aE a.1 a.2.1 a.2.2.1 a.2.2.2.1 a.2.2.2.2.1 a.2.2.2.2.2.1 b.1.1 b.1.2.1 b.1.2.2.1 b.2.1.1 b.2.1.2.1 b.2.2.1.1 b.2.2.1.2.1 b.2.2.1.2.2.1 kn kr) (x1, (x2, (x3, (x4, (x5, (x6, ())))))) ((x7, (x8, (x9, ()))), ((x10, (x11, ())), ((x12, (x13, (x14, ()))), ())))
def tree_rlog_Merge (F_rlog_with : A_rlog_with → M_rlog_with → Option O_rlog_with) (F_rlog_cover : A_rlog_cover → M_rlog_cover → Option O_rlog_cover) (F_rlog_Term : A_rlog_Term → M_rlog_Term → Option O_rlog_Term) (L_rlog_Merge_13 : LT_rlog_Merge_13 → LM_rlog_Merge_13 → Option LO_rlog_Merge_13) {α : Type} (x1 : Int) (x2 : Int) (x3 : List (Int × Int × ByteArray)) (x4 : Int) (x5 : Int) (x6 : List (Int × Int × ByteArray)) (K : O_rlog_Merge → Option α) : Option α :=
 (F_rlog_with ((x1, x2, x3, ()), x3, ()) ()).bind fun r1 =>
 cond (decide (x4 > 9223372036854775808))
 (K (((r1.fst.fst, (r1.fst.snd.fst, (r1.fst.snd.snd.fst, ()))), (0, (false, ()))), ()))
 (cond (decide (IntKind.u64.wrap (↑x6.length : Int) > IntKind.u64.wrap (9223372036854775808 - x4)))
 (K (((r1.fst.fst, (r1.fst.snd.fst, (r1.fst.snd.snd.fst, ()))), (0, (false, ()))), ()))
 ((F_rlog_cover ((x1, x2, x3, ()), x4, x5, x6, ()) ()).bind fun r2 =>
 cond (!r2.fst.snd.snd.snd.fst)
 (K (((r1.fst.fst, (r1.fst.snd.fst, (r1.fst.snd.snd.fst, ()))), (IntKind.u64.wrap (x4 + IntKind.u64.wrap (↑x6.length : Int)), (true, ()))), ()))
 ((F_rlog_Term ((x1, x2, x3, ()), r2.fst.fst, ()) ()).bind fun r3 =>
 cond (!r3.fst.snd.fst)
 (K (((r1.fst.fst, (r1.fst.snd.fst, (r1.fst.snd.snd.fst, ()))), (0, (false, ()))), ()))
 (cond (r3.fst.fst != r2.fst.snd.fst)
 (K (((r1.fst.fst, (r1.fst.snd.fst, (r1.fst.snd.snd.fst, ()))), (0, (false, ()))), ()))
 ((L_rlog_Merge_13 (r2.fst.snd.snd.fst, IntKind.u64.wrap (x4 + IntKind.u64.wrap (↑x6.length : Int)), IntKind.i64.wrap (IntKind.u64.wrap (r2.fst.fst - x1)), r2.fst.snd.snd.fst, (↑r2.fst.snd.snd.fst.length : Int), 0, ()) ((x1, x2, x3, ()), (0, 0, ()), (r1.fst.fst, r1.fst.snd.fst, r1.fst.snd.snd.fst, ()), ())).bind fun r4 =>
 Sum.elim (fun u5 =>
 K (((u5.snd.fst.fst, (u5.snd.fst.snd.fst, (u5.snd.fst.snd.snd.fst, ()))), (u5.fst.fst, (u5.fst.snd.fst, ()))), ()))
 (fun u5 =>
 K (((u5.snd.snd.fst.fst, (u5.snd.snd.fst.snd.fst, (u5.snd.snd.fst.snd.snd.fst, ()))), (u5.fst.fst, (true, ()))), ())) (r4))))))
noncomputable def F_rlog_Merge : A_rlog_Merge → M_rlog_Merge → Option O_rlog_Merge := fun a b => tree_rlog_Merge F_rlog_with F_rlog_cover F_rlog_Term L_rlog_Merge_13 a.1.1 a.1.2.1 a.1.2.2.1 a.2.1 a.2.2.1 a.2.2.2.1 some
theorem n_rlog_Merge (F_rlog_with : A_rlog_with → M_rlog_with → Option O_rlog_with) (F_rlog_cover : A_rlog_cover → M_rlog_cover → Option O_rlog_cover) (F_rlog_Term : A_rlog_Term → M_rlog_Term → Option O_rlog_Term) (L_rlog_Merge_13 : LT_rlog_Merge_13 → LM_rlog_Merge_13 → Option LO_rlog_Merge_13) (x1 : Int) (x2 : Int) (x3 : List (Int × Int × ByteArray)) (x4 : Int) (x5 : Int) (x6 : List (Int × Int × ByteArray)) {α : Type} (K : O_rlog_Merge → Option α) : tree_rlog_Merge F_rlog_with F_rlog_cover F_rlog_Term L_rlog_Merge_13 x1 x2 x3 x4 x5 x6 K = (tree_rlog_Merge F_rlog_with F_rlog_cover F_rlog_Term L_rlog_Merge_13 x1 x2 x3 x4 x5 x6 some).bind K := by simp only [tree_rlog_Merge, bind_cond, bind_none', bind_some', bind_bind', bind_sum]
theorem Fe_rlog_Merge (x1 : Int) (x2 : Int) (x3 : List (Int × Int × ByteArray)) (x4 : Int) (x5 : Int) (x6 : List (Int × Int × ByteArray)) : F_rlog_Merge ((x1, (x2, (x3, ()))), (x4, (x5, (x6, ())))) () = tree_rlog_Merge F_rlog_with F_rlog_cover F_rlog_Term L_rlog_Merge_13 x1 x2 x3 x4 x5 x6 some := rfl

/-! countersign/rlog.Newer -/
def args_rlog_Newer : SkL := (.cons (.agg (.cons (.leaf (.int .u64)) (.cons (.leaf (.int .u64)) (.cons (.leaf (.slc 70 (.cons (.int .u64) (.cons (.int .i64) (.cons .str .nil))))) .nil)))) (.cons (.leaf (.int .u64)) (.cons (.leaf (.int .u64)) .nil)))
def mem_rlog_Newer : MSk := []
def outs_rlog_Newer : List OutC := [⟨(.leaf .bool), []⟩]
abbrev A_rlog_Newer : Type := ((Int × Int × (List (Int × Int × ByteArray)) × Unit) × Int × Int × Unit)
abbrev M_rlog_Newer : Type := Unit
abbrev O_rlog_Newer : Type := Bool × Unit
def tree_rlog_Newer (F_rlog_Last : A_rlog_Last → M_rlog_Last → Option O_rlog_Last) (F_rlog_Term : A_rlog_Term → M_rlog_Term → Option O_rlog_Term) {α : Type} (x1 : Int) (x2 : Int) (x3 : List (Int × Int × ByteArray)) (x4 : Int) (x5 : Int) (K : O_rlog_Newer → Option α) : Option α :=
 (F_rlog_Last ((x1, x2, x3, ()), ()) ()).bind fun r1 =>
 (F_rlog_Term ((x1, x2, x3, ()), r1.fst, ()) ()).bind fun r2 =>
 cond (decide (x5 > r2.fst.fst))
 (K (true, ()))
 (cond (x5 == r2.fst.fst)
 ((F_rlog_Last ((x1, x2, x3, ()), ()) ()).bind fun r3 =>
 K (decide (x4 ≥ r3.fst), ()))
 (K (false, ())))
noncomputable def F_rlog_Newer : A_rlog_Newer → M_rlog_Newer → Option O_rlog_Newer := fun a b => tree_rlog_Newer F_rlog_Last F_rlog_Term a.1.1 a.1.2.1 a.1.2.2.1 a.2.1 a.2.2.1 some
theorem n_rlog_Newer (F_rlog_Last : A_rlog_Last → M_rlog_Last → Option O_rlog_Last) (F_rlog_Term : A_rlog_Term → M_rlog_Term → Option O_rlog_Term) (x1 : Int) (x2 : Int) (x3 : List (Int × Int × ByteArray)) (x4 : Int) (x5 : Int) {α : Type} (K : O_rlog_Newer → Option α) : tree_rlog_Newer F_rlog_Last F_rlog_Term x1 x2 x3 x4 x5 K = (tree_rlog_Newer F_rlog_Last F_rlog_Term x1 x2 x3 x4 x5 some).bind K := by simp only [tree_rlog_Newer, bind_cond, bind_none', bind_some', bind_bind', bind_sum]
theorem Fe_rlog_Newer (x1 : Int) (x2 : Int) (x3 : List (Int × Int × ByteArray)) (x4 : Int) (x5 : Int) : F_rlog_Newer ((x1, (x2, (x3, ()))), (x4, (x5, ()))) () = tree_rlog_Newer F_rlog_Last F_rlog_Term x1 x2 x3 x4 x5 some := rfl

end Go.Proofs.Ytjhaidbfahobmaa.S2
