/- Plain forms of the program's functions, by program. -/
import Derived.Test.YtlmiaagcnhgfmaaS2y
set_option maxRecDepth 100000
set_option maxHeartbeats 0
set_option linter.unusedVariables false
set_option linter.unusedSimpArgs false
namespace Go.Proofs.Ytlmiaagcnhgfmaa.S2
open Go
/-! countersign/rlog.Entry -/
def args_rlog_Entry : SkL := (.cons (.agg (.cons (.leaf (.int .u64)) (.cons (.leaf (.int .u64)) (.cons (.leaf (.slc 37 (.cons (.int .u64) (.cons (.int .i64) (.cons .str .nil))))) .nil)))) (.cons (.leaf (.int .u64)) .nil))
def mem_rlog_Entry : MSk := []
def outs_rlog_Entry : List OutC := [⟨(.tup (.cons (.agg (.cons (.leaf (.int .u64)) (.cons (.leaf (.int .i64)) (.cons (.leaf .str) .nil)))) (.cons (.leaf .bool) .nil))), []⟩]
abbrev A_rlog_Entry : Type := ((Int × Int × (List (Int × Int × ByteArray)) × Unit) × Int × Unit)
abbrev M_rlog_Entry : Type := Unit
abbrev O_rlog_Entry : Type := ((Int × Int × ByteArray × Unit) × Bool × Unit) × Unit
def tree_rlog_Entry {α : Type} (x1 : Int) (x2 : Int) (x3 : List (Int × Int × ByteArray)) (x4 : Int) (K : O_rlog_Entry → Option α) : Option α :=
  cond (decide (x4 ≤ x1))
  (K (((0, (0, (ByteArray.empty, ()))), (false, ())), ()))
  (cond (decide (IntKind.u64.wrap (x4 - x1) > IntKind.u64.wrap (↑x3.length : Int)))
   (K (((0, (0, (ByteArray.empty, ()))), (false, ())), ()))
   (cond (decide (0 ≤ IntKind.u64.wrap (IntKind.u64.wrap (x4 - x1) - 1)))
    (cond (decide (IntKind.u64.wrap (IntKind.u64.wrap (x4 - x1) - 1) < (↑x3.length : Int)))
     (K ((((x3.getD (IntKind.u64.wrap (IntKind.u64.wrap (x4 - x1) - 1)).toNat (0, 0, ByteArray.empty)).fst, ((x3.getD (IntKind.u64.wrap (IntKind.u64.wrap (x4 - x1) - 1)).toNat (0, 0, ByteArray.empty)).snd.fst, ((x3.getD (IntKind.u64.wrap (IntKind.u64.wrap (x4 - x1) - 1)).toNat (0, 0, ByteArray.empty)).snd.snd, ()))), (true, ())), ()))
     (none))
    (none)))
noncomputable def F_rlog_Entry : A_rlog_Entry → M_rlog_Entry → Option O_rlog_Entry := fun a b => tree_rlog_Entry a.1.1 a.1.2.1 a.1.2.2.1 a.2.1 some
theorem n_rlog_Entry (x1 : Int) (x2 : Int) (x3 : List (Int × Int × ByteArray)) (x4 : Int) {α : Type} (K : O_rlog_Entry → Option α) : tree_rlog_Entry x1 x2 x3 x4 K = (tree_rlog_Entry x1 x2 x3 x4 some).bind K := by simp only [tree_rlog_Entry, bind_cond, bind_none', bind_some', bind_bind', bind_sum]
theorem Fe_rlog_Entry (x1 : Int) (x2 : Int) (x3 : List (Int × Int × ByteArray)) (x4 : Int) : F_rlog_Entry ((x1, (x2, (x3, ()))), (x4, ())) () = tree_rlog_Entry x1 x2 x3 x4 some := rfl

/-! countersign/rlog.Term -/
def args_rlog_Term : SkL := (.cons (.agg (.cons (.leaf (.int .u64)) (.cons (.leaf (.int .u64)) (.cons (.leaf (.slc 37 (.cons (.int .u64) (.cons (.int .i64) (.cons .str .nil))))) .nil)))) (.cons (.leaf (.int .u64)) .nil))
def mem_rlog_Term : MSk := []
def outs_rlog_Term : List OutC := [⟨(.tup (.cons (.leaf (.int .u64)) (.cons (.leaf .bool) .nil))), []⟩]
abbrev A_rlog_Term : Type := ((Int × Int × (List (Int × Int × ByteArray)) × Unit) × Int × Unit)
abbrev M_rlog_Term : Type := Unit
abbrev O_rlog_Term : Type := (Int × Bool × Unit) × Unit
def tree_rlog_Term (F_rlog_Entry : A_rlog_Entry → M_rlog_Entry → Option O_rlog_Entry) {α : Type} (x1 : Int) (x2 : Int) (x3 : List (Int × Int × ByteArray)) (x4 : Int) (K : O_rlog_Term → Option α) : Option α :=
  cond (x4 == x1)
  (K ((x2, (true, ())), ()))
  ((F_rlog_Entry ((x1, x2, x3, ()), x4, ()) ()).bind fun r1 =>
   K ((r1.fst.fst.fst, (r1.fst.snd.fst, ())), ()))
noncomputable def F_rlog_Term : A_rlog_Term → M_rlog_Term → Option O_rlog_Term := fun a b => tree_rlog_Term F_rlog_Entry a.1.1 a.1.2.1 a.1.2.2.1 a.2.1 some
theorem n_rlog_Term (F_rlog_Entry : A_rlog_Entry → M_rlog_Entry → Option O_rlog_Entry) (x1 : Int) (x2 : Int) (x3 : List (Int × Int × ByteArray)) (x4 : Int) {α : Type} (K : O_rlog_Term → Option α) : tree_rlog_Term F_rlog_Entry x1 x2 x3 x4 K = (tree_rlog_Term F_rlog_Entry x1 x2 x3 x4 some).bind K := by simp only [tree_rlog_Term, bind_cond, bind_none', bind_some', bind_bind', bind_sum]
theorem Fe_rlog_Term (x1 : Int) (x2 : Int) (x3 : List (Int × Int × ByteArray)) (x4 : Int) : F_rlog_Term ((x1, (x2, (x3, ()))), (x4, ())) () = tree_rlog_Term F_rlog_Entry x1 x2 x3 x4 some := rfl

/-! countersign/rlog.Last -/
def args_rlog_Last : SkL := (.cons (.agg (.cons (.leaf (.int .u64)) (.cons (.leaf (.int .u64)) (.cons (.leaf (.slc 37 (.cons (.int .u64) (.cons (.int .i64) (.cons .str .nil))))) .nil)))) .nil)
def mem_rlog_Last : MSk := []
def outs_rlog_Last : List OutC := [⟨(.leaf (.int .u64)), []⟩]
abbrev A_rlog_Last : Type := ((Int × Int × (List (Int × Int × ByteArray)) × Unit) × Unit)
abbrev M_rlog_Last : Type := Unit
abbrev O_rlog_Last : Type := Int × Unit
def tree_rlog_Last {α : Type} (x1 : Int) (x2 : Int) (x3 : List (Int × Int × ByteArray)) (K : O_rlog_Last → Option α) : Option α :=
  K (IntKind.u64.wrap (x1 + IntKind.u64.wrap (↑x3.length : Int)), ())
noncomputable def F_rlog_Last : A_rlog_Last → M_rlog_Last → Option O_rlog_Last := fun a b => tree_rlog_Last a.1.1 a.1.2.1 a.1.2.2.1 some
theorem n_rlog_Last (x1 : Int) (x2 : Int) (x3 : List (Int × Int × ByteArray)) {α : Type} (K : O_rlog_Last → Option α) : tree_rlog_Last x1 x2 x3 K = (tree_rlog_Last x1 x2 x3 some).bind K := by simp only [tree_rlog_Last, bind_cond, bind_none', bind_some', bind_bind', bind_sum]
theorem Fe_rlog_Last (x1 : Int) (x2 : Int) (x3 : List (Int × Int × ByteArray)) : F_rlog_Last ((x1, (x2, (x3, ()))), ()) () = tree_rlog_Last x1 x2 x3 some := rfl

/-! countersign/rlog.Newer -/
def args_rlog_Newer : SkL := (.cons (.agg (.cons (.leaf (.int .u64)) (.cons (.leaf (.int .u64)) (.cons (.leaf (.slc 37 (.cons (.int .u64) (.cons (.int .i64) (.cons .str .nil))))) .nil)))) (.cons (.leaf (.int .u64)) (.cons (.leaf (.int .u64)) .nil)))
def mem_rlog_Newer : MSk := []
def outs_rlog_Newer : List OutC := [⟨(.leaf .bool), []⟩]
abbrev A_rlog_Newer : Type := ((Int × Int × (List (Int × Int × ByteArray)) × Unit) × Int × Int × Unit)
abbrev M_rlog_Newer : Type := Unit
abbrev O_rlog_Newer : Type := Bool × Unit
def tree_rlog_Newer (F_rlog_Last : A_rlog_Last → M_rlog_Last → Option O_rlog_Last) (F_rlog_Term : A_rlog_Term → M_rlog_Term → Option O_rlog_Term) {α : Type} (x1 : Int) (x2 : Int) (x3 : List (Int × Int × ByteArray)) (x4 : Int) (x5 : Int) (K : O_rlog_Newer → Option α) : Option α :=
  (F_rlog_Last ((x1, x2, x3, ()), ()) ()).bind fun r1 =>
  (F_rlog_Term ((x1, x2, x3, ()), r1.fst, ()) ()).bind fun r2 =>
  cond (decide (x5 > r2.fst.fst))
  (K (true, ()))
  (cond (x5 == r2.fst.fst)
   ((F_rlog_Last ((x1, x2, x3, ()), ()) ()).bind fun r3 =>
    K (decide (x4 ≥ r3.fst), ()))
   (K (false, ())))
noncomputable def F_rlog_Newer : A_rlog_Newer → M_rlog_Newer → Option O_rlog_Newer := fun a b => tree_rlog_Newer F_rlog_Last F_rlog_Term a.1.1 a.1.2.1 a.1.2.2.1 a.2.1 a.2.2.1 some
theorem n_rlog_Newer (F_rlog_Last : A_rlog_Last → M_rlog_Last → Option O_rlog_Last) (F_rlog_Term : A_rlog_Term → M_rlog_Term → Option O_rlog_Term) (x1 : Int) (x2 : Int) (x3 : List (Int × Int × ByteArray)) (x4 : Int) (x5 : Int) {α : Type} (K : O_rlog_Newer → Option α) : tree_rlog_Newer F_rlog_Last F_rlog_Term x1 x2 x3 x4 x5 K = (tree_rlog_Newer F_rlog_Last F_rlog_Term x1 x2 x3 x4 x5 some).bind K := by simp only [tree_rlog_Newer, bind_cond, bind_none', bind_some', bind_bind', bind_sum]
theorem Fe_rlog_Newer (x1 : Int) (x2 : Int) (x3 : List (Int × Int × ByteArray)) (x4 : Int) (x5 : Int) : F_rlog_Newer ((x1, (x2, (x3, ()))), (x4, (x5, ()))) () = tree_rlog_Newer F_rlog_Last F_rlog_Term x1 x2 x3 x4 x5 some := rfl

/-! countersign/countersignref15.Entry -/
def args_ref15_Entry : SkL := (.cons (.agg (.cons (.leaf (.int .u64)) (.cons (.leaf (.int .u64)) (.cons (.leaf (.slc 37 (.cons (.int .u64) (.cons (.int .i64) (.cons .str .nil))))) .nil)))) (.cons (.leaf (.int .u64)) .nil))
def mem_ref15_Entry : MSk := []
def outs_ref15_Entry : List OutC := [⟨(.tup (.cons (.agg (.cons (.leaf (.int .u64)) (.cons (.leaf (.int .i64)) (.cons (.leaf .str) .nil)))) (.cons (.leaf .bool) .nil))), []⟩]
abbrev A_ref15_Entry : Type := ((Int × Int × (List (Int × Int × ByteArray)) × Unit) × Int × Unit)
abbrev M_ref15_Entry : Type := Unit
abbrev O_ref15_Entry : Type := ((Int × Int × ByteArray × Unit) × Bool × Unit) × Unit
def ltmps_ref15_Entry_2 : SkL := (.cons (.const .dead) (.cons (.leaf (.int .u64)) (.cons (.const (.ptr 1064 0 0)) (.cons (.const .dead) (.cons (.const (.ptr 1128 0 0)) (.cons (.const .dead) (.cons (.leaf (.int .i64)) (.cons (.const .dead) (.cons (.const .dead) (.cons (.const .dead) (.cons (.const .dead) (.cons (.const .dead) (.cons (.const .dead) (.cons (.const .dead) (.cons (.const .dead) (.cons (.const .dead) (.cons (.const .dead) (.cons (.const .dead) (.cons (.const .dead) (.cons (.const .dead) (.cons (.const .dead) (.cons (.const .dead) (.cons (.const .dead) (.cons (.const .dead) (.cons (.const .dead) (.cons (.const .dead) (.cons (.const .dead) (.cons (.const .dead) .nil))))))))))))))))))))))))))))
def lmem_ref15_Entry_2 : MSk := [(1064, .cells (.cons (.leaf (.int .u64)) (.cons (.leaf (.int .u64)) (.cons (.leaf (.slc 37 (.cons (.int .u64) (.cons (.int .i64) (.cons .str .nil))))) .nil)))), (1128, .cells (.cons (.leaf (.int .u64)) (.cons (.leaf (.int .i64)) (.cons (.leaf .str) .nil))))]
def louts_ref15_Entry_2 : List OutL := [⟨.ret, (.cons (.const .dead) (.cons (.const .dead) (.cons (.const .dead) (.cons (.const .dead) (.cons (.const (.ptr 1128 0 0)) (.cons (.leaf .bool) (.cons (.const .dead) (.cons (.const .dead) (.cons (.const .dead) (.cons (.const .dead) (.cons (.const .dead) (.cons (.const .dead) (.cons (.const .dead) (.cons (.const .dead) (.cons (.const .dead) (.cons (.const .dead) (.cons (.const .dead) (.cons (.const .dead) (.cons (.const .dead) (.cons (.const .dead) (.cons (.const .dead) (.cons (.const .dead) (.cons (.const .dead) (.cons (.const .dead) (.cons (.const .dead) (.cons (.const .dead) (.cons (.const .dead) (.cons (.const .dead) .nil)))))))))))))))))))))))))))), [(1128, .cells (.cons (.leaf (.int .u64)) (.cons (.leaf (.int .i64)) (.cons (.leaf .str) .nil))))]⟩, ⟨(.exit 0), (.cons (.const .dead) (.cons (.const .dead) (.cons (.const .dead) (.cons (.const .dead) (.cons (.const (.ptr 1128 0 0)) (.cons (.const .dead) (.cons (.const .dead) (.cons (.const .dead) (.cons (.const .dead) (.cons (.const .dead) (.cons (.const .dead) (.cons (.const .dead) (.cons (.const .dead) (.cons (.const .dead) (.cons (.const .dead) (.cons (.const .dead) (.cons (.const .dead) (.cons (.const .dead) (.cons (.const .dead) (.cons (.const .dead) (.cons (.const .dead) (.cons (.const .dead) (.cons (.const .dead) (.cons (.const .dead) (.cons (.const .dead) (.cons (.const .dead) (.cons (.const .dead) (.cons (.const .dead) .nil)))))))))))))))))))))))))))), [(1128, .cells (.cons (.leaf (.int .u64)) (.cons (.leaf (.int .i64)) (.cons (.leaf .str) .nil))))]⟩]
abbrev LT_ref15_Entry_2 : Type := (Int × Int × Unit)
abbrev LM_ref15_Entry_2 : Type := ((Int × Int × (List (Int × Int × ByteArray)) × Unit) × (Int × Int × ByteArray × Unit) × Unit)
abbrev LO_ref15_Entry_2 : Type := ((Bool × Unit) × ((Int × Int × ByteArray × Unit) × Unit)) ⊕ (Unit × ((Int × Int × ByteArray × Unit) × Unit))
def ltree_ref15_Entry_2 {α : Type} (x1 : Int) (x2 : Int) (x3 : Int) (x4 : Int) (x5 : List (Int × Int × ByteArray)) (x6 : Int) (x7 : Int) (x8 : ByteArray) (kn : LT_ref15_Entry_2 → LM_ref15_Entry_2 → Option α) (kr : LO_ref15_Entry_2 → Option α) : Option α :=
  cond (decide (x2 < (↑x5.length : Int)))
  (cond (IntKind.u64.wrap (IntKind.u64.wrap (x3 + IntKind.u64.wrap x2) + 1) == x1)
   (cond (decide (0 ≤ x2))
    (cond (decide (x2 < (↑x5.length : Int)))
     (kr (.inl ((true, ()), (((x5.getD x2.toNat (0, 0, ByteArray.empty)).fst, ((x5.getD x2.toNat (0, 0, ByteArray.empty)).snd.fst, ((x5.getD x2.toNat (0, 0, ByteArray.empty)).snd.snd, ()))), ()))))
     (none))
    (none))
   (kn (x1, (IntKind.i64.wrap (x2 + 1), ())) ((x3, (x4, (x5, ()))), ((x6, (x7, (x8, ()))), ()))))
  (kr (.inr ((), ((x6, (x7, (x8, ()))), ()))))
noncomputable def L_ref15_Entry_2 : LT_ref15_Entry_2 → LM_ref15_Entry_2 → Option LO_ref15_Entry_2 := fun x y => runL (fun p => (fun (a : LT_ref15_Entry_2) (b : LM_ref15_Entry_2) => ltree_ref15_Entry_2 a.1 a.2.1 b.1.1 b.1.2.1 b.1.2.2.1 b.2.1.1 b.2.1.2.1 b.2.1.2.2.1 (fun a' b' => some (.inl (a', b'))) fun r => some (.inr r)) p.1 p.2) (x, y)
theorem nl_ref15_Entry_2 (x1 : Int) (x2 : Int) (x3 : Int) (x4 : Int) (x5 : List (Int × Int × ByteArray)) (x6 : Int) (x7 : Int) (x8 : ByteArray) {α : Type} (kn : LT_ref15_Entry_2 → LM_ref15_Entry_2 → Option α) (kr : LO_ref15_Entry_2 → Option α) : ltree_ref15_Entry_2 x1 x2 x3 x4 x5 x6 x7 x8 kn kr = (ltree_ref15_Entry_2 x1 x2 x3 x4 x5 x6 x7 x8 (fun a b => some (.inl (a, b))) fun r => some (.inr r)).bind (Sum.elim (fun p : LT_ref15_Entry_2 × LM_ref15_Entry_2 => kn p.1 p.2) kr) := by simp only [ltree_ref15_Entry_2, bind_cond, bind_none', bind_some', bind_bind', bind_sum, Sum.elim_inl, Sum.elim_inr]
theorem Le_ref15_Entry_2 (x1 : Int) (x2 : Int) (x3 : Int) (x4 : Int) (x5 : List (Int × Int × ByteArray)) (x6 : Int) (x7 : Int) (x8 : ByteArray) : L_ref15_Entry_2 (x1, (x2, ())) ((x3, (x4, (x5, ()))), ((x6, (x7, (x8, ()))), ())) = ltree_ref15_Entry_2 x1 x2 x3 x4 x5 x6 x7 x8 L_ref15_Entry_2 some := runL_tree (A := LT_ref15_Entry_2) (B := LM_ref15_Entry_2) (R := LO_ref15_Entry_2) (fun a b kn kr => ltree_ref15_Entry_2 a.1 a.2.1 b.1.1 b.1.2.1 b.1.2.2.1 b.2.1.1 b.2.1.2.1 b.2.1.2.2.1 kn kr) (fun a b kn kr => nl_ref15_Entry_2 a.1 a.2.1 b.1.1 b.1.2.1 b.1.2.2.1 b.2.1.1 b.2.1.2.1 b.2.1.2.2.1 kn kr) (x1, (x2, ())) ((x3, (x4, (x5, ()))), ((x6, (x7, (x8, ()))), ()))
def tree_ref15_Entry (L_ref15_Entry_2 : LT_ref15_Entry_2 → LM_ref15_Entry_2 → Option LO_ref15_Entry_2) {α : Type} (x1 : Int) (x2 : Int) (x3 : List (Int × Int × ByteArray)) (x4 : Int) (K : O_ref15_Entry → Option α) : Option α :=
  (L_ref15_Entry_2 (x4, 0, ()) ((x1, x2, x3, ()), (0, 0, ByteArray.empty, ()), ())).bind fun r1 =>
  Sum.elim (fun u2 =>
   K (((u2.snd.fst.fst, (u2.snd.fst.snd.fst, (u2.snd.fst.snd.snd.fst, ()))), (u2.fst.fst, ())), ()))
  (fun u2 =>
   K (((0, (0, (ByteArray.empty, ()))), (false, ())), ())) (r1)
noncomputable def F_ref15_Entry : A_ref15_Entry → M_ref15_Entry → Option O_ref15_Entry := fun a b => tree_ref15_Entry L_ref15_Entry_2 a.1.1 a.1.2.1 a.1.2.2.1 a.2.1 some
theorem n_ref15_Entry (L_ref15_Entry_2 : LT_ref15_Entry_2 → LM_ref15_Entry_2 → Option LO_ref15_Entry_2) (x1 : Int) (x2 : Int) (x3 : List (Int × Int × ByteArray)) (x4 : Int) {α : Type} (K : O_ref15_Entry → Option α) : tree_ref15_Entry L_ref15_Entry_2 x1 x2 x3 x4 K = (tree_ref15_Entry L_ref15_Entry_2 x1 x2 x3 x4 some).bind K := by simp only [tree_ref15_Entry, bind_cond, bind_none', bind_some', bind_bind', bind_sum]
theorem Fe_ref15_Entry (x1 : Int) (x2 : Int) (x3 : List (Int × Int × ByteArray)) (x4 : Int) : F_ref15_Entry ((x1, (x2, (x3, ()))), (x4, ())) () = tree_ref15_Entry L_ref15_Entry_2 x1 x2 x3 x4 some := rfl

/-! countersign/countersignref15.Term -/
def args_ref15_Term : SkL := (.cons (.agg (.cons (.leaf (.int .u64)) (.cons (.leaf (.int .u64)) (.cons (.leaf (.slc 37 (.cons (.int .u64) (.cons (.int .i64) (.cons .str .nil))))) .nil)))) (.cons (.leaf (.int .u64)) .nil))
def mem_ref15_Term : MSk := []
def outs_ref15_Term : List OutC := [⟨(.tup (.cons (.leaf (.int .u64)) (.cons (.leaf .bool) .nil))), []⟩]
abbrev A_ref15_Term : Type := ((Int × Int × (List (Int × Int × ByteArray)) × Unit) × Int × Unit)
abbrev M_ref15_Term : Type := Unit
abbrev O_ref15_Term : Type := (Int × Bool × Unit) × Unit
def tree_ref15_Term (F_ref15_Entry : A_ref15_Entry → M_ref15_Entry → Option O_ref15_Entry) {α : Type} (x1 : Int) (x2 : Int) (x3 : List (Int × Int × ByteArray)) (x4 : Int) (K : O_ref15_Term → Option α) : Option α :=
  cond (x4 == x1)
  (K ((x2, (true, ())), ()))
  ((F_ref15_Entry ((x1, x2, x3, ()), x4, ()) ()).bind fun r1 =>
   K ((r1.fst.fst.fst, (r1.fst.snd.fst, ())), ()))
noncomputable def F_ref15_Term : A_ref15_Term → M_ref15_Term → Option O_ref15_Term := fun a b => tree_ref15_Term F_ref15_Entry a.1.1 a.1.2.1 a.1.2.2.1 a.2.1 some
theorem n_ref15_Term (F_ref15_Entry : A_ref15_Entry → M_ref15_Entry → Option O_ref15_Entry) (x1 : Int) (x2 : Int) (x3 : List (Int × Int × ByteArray)) (x4 : Int) {α : Type} (K : O_ref15_Term → Option α) : tree_ref15_Term F_ref15_Entry x1 x2 x3 x4 K = (tree_ref15_Term F_ref15_Entry x1 x2 x3 x4 some).bind K := by simp only [tree_ref15_Term, bind_cond, bind_none', bind_some', bind_bind', bind_sum]
theorem Fe_ref15_Term (x1 : Int) (x2 : Int) (x3 : List (Int × Int × ByteArray)) (x4 : Int) : F_ref15_Term ((x1, (x2, (x3, ()))), (x4, ())) () = tree_ref15_Term F_ref15_Entry x1 x2 x3 x4 some := rfl

/-! countersign/countersignref15.Last -/
def args_ref15_Last : SkL := (.cons (.agg (.cons (.leaf (.int .u64)) (.cons (.leaf (.int .u64)) (.cons (.leaf (.slc 37 (.cons (.int .u64) (.cons (.int .i64) (.cons .str .nil))))) .nil)))) .nil)
def mem_ref15_Last : MSk := []
def outs_ref15_Last : List OutC := [⟨(.leaf (.int .u64)), []⟩]
abbrev A_ref15_Last : Type := ((Int × Int × (List (Int × Int × ByteArray)) × Unit) × Unit)
abbrev M_ref15_Last : Type := Unit
abbrev O_ref15_Last : Type := Int × Unit
def tree_ref15_Last {α : Type} (x1 : Int) (x2 : Int) (x3 : List (Int × Int × ByteArray)) (K : O_ref15_Last → Option α) : Option α :=
  K (IntKind.u64.wrap (x1 + IntKind.u64.wrap (↑x3.length : Int)), ())
noncomputable def F_ref15_Last : A_ref15_Last → M_ref15_Last → Option O_ref15_Last := fun a b => tree_ref15_Last a.1.1 a.1.2.1 a.1.2.2.1 some
theorem n_ref15_Last (x1 : Int) (x2 : Int) (x3 : List (Int × Int × ByteArray)) {α : Type} (K : O_ref15_Last → Option α) : tree_ref15_Last x1 x2 x3 K = (tree_ref15_Last x1 x2 x3 some).bind K := by simp only [tree_ref15_Last, bind_cond, bind_none', bind_some', bind_bind', bind_sum]
theorem Fe_ref15_Last (x1 : Int) (x2 : Int) (x3 : List (Int × Int × ByteArray)) : F_ref15_Last ((x1, (x2, (x3, ()))), ()) () = tree_ref15_Last x1 x2 x3 some := rfl

/-! countersign/countersignref15.May -/
def args_ref15_May : SkL := (.cons (.agg (.cons (.leaf (.int .u64)) (.cons (.leaf (.int .u64)) (.cons (.leaf (.slc 37 (.cons (.int .u64) (.cons (.int .i64) (.cons .str .nil))))) .nil)))) .nil)
def mem_ref15_May : MSk := []
def outs_ref15_May : List OutC := [⟨(.leaf .bool), []⟩]
abbrev A_ref15_May : Type := ((Int × Int × (List (Int × Int × ByteArray)) × Unit) × Unit)
abbrev M_ref15_May : Type := Unit
abbrev O_ref15_May : Type := Bool × Unit
def tree_ref15_May {α : Type} (x1 : Int) (x2 : Int) (x3 : List (Int × Int × ByteArray)) (K : O_ref15_May → Option α) : Option α :=
  cond (decide (x1 ≤ 4611686018427387904))
  (K (decide ((↑x3.length : Int) ≤ 256), ()))
  (K (false, ()))
noncomputable def F_ref15_May : A_ref15_May → M_ref15_May → Option O_ref15_May := fun a b => tree_ref15_May a.1.1 a.1.2.1 a.1.2.2.1 some
theorem n_ref15_May (x1 : Int) (x2 : Int) (x3 : List (Int × Int × ByteArray)) {α : Type} (K : O_ref15_May → Option α) : tree_ref15_May x1 x2 x3 K = (tree_ref15_May x1 x2 x3 some).bind K := by simp only [tree_ref15_May, bind_cond, bind_none', bind_some', bind_bind', bind_sum]
theorem Fe_ref15_May (x1 : Int) (x2 : Int) (x3 : List (Int × Int × ByteArray)) : F_ref15_May ((x1, (x2, (x3, ()))), ()) () = tree_ref15_May x1 x2 x3 some := rfl

/-! countersign/countersignref15.Entries -/
def args_ref15_Entries : SkL := (.cons (.leaf (.slc 37 (.cons (.int .u64) (.cons (.int .i64) (.cons .str .nil))))) (.cons (.leaf (.slc 37 (.cons (.int .u64) (.cons (.int .i64) (.cons .str .nil))))) .nil))
def mem_ref15_Entries : MSk := []
def outs_ref15_Entries : List OutC := [⟨(.leaf .bool), []⟩]
abbrev A_ref15_Entries : Type := ((List (Int × Int × ByteArray)) × (List (Int × Int × ByteArray)) × Unit)
abbrev M_ref15_Entries : Type := Unit
abbrev O_ref15_Entries : Type := Bool × Unit
def ltmps_ref15_Entries_4 : SkL := (.cons (.leaf (.slc 37 (.cons (.int .u64) (.cons (.int .i64) (.cons .str .nil))))) (.cons (.leaf (.slc 37 (.cons (.int .u64) (.cons (.int .i64) (.cons .str .nil))))) (.cons (.const .dead) (.cons (.const .dead) (.cons (.const .dead) (.cons (.leaf (.int .i64)) (.cons (.const .dead) (.cons (.const .dead) (.cons (.const .dead) (.cons (.const .dead) (.cons (.const .dead) (.cons (.const .dead) (.cons (.const .dead) (.cons (.const .dead) (.cons (.const .dead) (.cons (.const .dead) (.cons (.const .dead) (.cons (.const .dead) (.cons (.const .dead) (.cons (.const .dead) (.cons (.const .dead) (.cons (.const .dead) (.cons (.const .dead) (.cons (.const .dead) (.cons (.const .dead) (.cons (.const .dead) .nil))))))))))))))))))))))))))
def lmem_ref15_Entries_4 : MSk := []
def louts_ref15_Entries_4 : List OutL := [⟨.ret, (.cons (.const .dead) (.cons (.const .dead) (.cons (.const .dead) (.cons (.const .dead) (.cons (.leaf .bool) (.cons (.const .dead) (.cons (.const .dead) (.cons (.const .dead) (.cons (.const .dead) (.cons (.const .dead) (.cons (.const .dead) (.cons (.const .dead) (.cons (.const .dead) (.cons (.const .dead) (.cons (.const .dead) (.cons (.const .dead) (.cons (.const .dead) (.cons (.const .dead) (.cons (.const .dead) (.cons (.const .dead) (.cons (.const .dead) (.cons (.const .dead) (.cons (.const .dead) (.cons (.const .dead) (.cons (.const .dead) (.cons (.const .dead) .nil)))))))))))))))))))))))))), []⟩, ⟨(.exit 0), (.cons (.const .dead) (.cons (.const .dead) (.cons (.const .dead) (.cons (.const .dead) (.cons (.const .dead) (.cons (.const .dead) (.cons (.const .dead) (.cons (.const .dead) (.cons (.const .dead) (.cons (.const .dead) (.cons (.const .dead) (.cons (.const .dead) (.cons (.const .dead) (.cons (.const .dead) (.cons (.const .dead) (.cons (.const .dead) (.cons (.const .dead) (.cons (.const .dead) (.cons (.const .dead) (.cons (.const .dead) (.cons (.const .dead) (.cons (.const .dead) (.cons (.const .dead) (.cons (.const .dead) (.cons (.const .dead) (.cons (.const .dead) .nil)))))))))))))))))))))))))), []⟩]
abbrev LT_ref15_Entries_4 : Type := ((List (Int × Int × ByteArray)) × (List (Int × Int × ByteArray)) × Int × Unit)
abbrev LM_ref15_Entries_4 : Type := Unit
abbrev LO_ref15_Entries_4 : Type := ((Bool × Unit) × Unit) ⊕ (Unit × Unit)
def ltree_ref15_Entries_4 {α : Type} (x1 : List (Int × Int × ByteArray)) (x2 : List (Int × Int × ByteArray)) (x3 : Int) (kn : LT_ref15_Entries_4 → LM_ref15_Entries_4 → Option α) (kr : LO_ref15_Entries_4 → Option α) : Option α :=
  cond (decide (x3 < (↑x1.length : Int)))
  (cond (decide (0 ≤ x3))
   (cond (decide (x3 < (↑x1.length : Int)))
    (cond (decide (0 ≤ x3))
     (cond (decide (x3 < (↑x2.length : Int)))
      (cond (Bool.true ^^   (x1.getD x3.toNat (0, 0, ByteArray.empty)).fst == (x2.getD x3.toNat (0, 0, ByteArray.empty)).fst &&     ((x1.getD x3.toNat (0, 0, ByteArray.empty)).snd.fst == (x2.getD x3.toNat (0, 0, ByteArray.empty)).snd.fst &&       ((x1.getD x3.toNat (0, 0, ByteArray.empty)).snd.snd.toList ==           (x2.getD x3.toNat (0, 0, ByteArray.empty)).snd.snd.toList &&         Bool.true)))
       (kr (.inl ((false, ()), ())))
       (kn (x1, (x2, (IntKind.i64.wrap (x3 + 1), ()))) ()))
      (none))
     (none))
    (none))
   (none))
  (kr (.inr ((), ())))
noncomputable def L_ref15_Entries_4 : LT_ref15_Entries_4 → LM_ref15_Entries_4 → Option LO_ref15_Entries_4 := fun x y => runL (fun p => (fun (a : LT_ref15_Entries_4) (b : LM_ref15_Entries_4) => ltree_ref15_Entries_4 a.1 a.2.1 a.2.2.1 (fun a' b' => some (.inl (a', b'))) fun r => some (.inr r)) p.1 p.2) (x, y)
theorem nl_ref15_Entries_4 (x1 : List (Int × Int × ByteArray)) (x2 : List (Int × Int × ByteArray)) (x3 : Int) {α : Type} (kn : LT_ref15_Entries_4 → LM_ref15_Entries_4 → Option α) (kr : LO_ref15_Entries_4 → Option α) : ltree_ref15_Entries_4 x1 x2 x3 kn kr = (ltree_ref15_Entries_4 x1 x2 x3 (fun a b => some (.inl (a, b))) fun r => some (.inr r)).bind (Sum.elim (fun p : LT_ref15_Entries_4 × LM_ref15_Entries_4 => kn p.1 p.2) kr) := by simp only [ltree_ref15_Entries_4, bind_cond, bind_none', bind_some', bind_bind', bind_sum, Sum.elim_inl, Sum.elim_inr]
theorem Le_ref15_Entries_4 (x1 : List (Int × Int × ByteArray)) (x2 : List (Int × Int × ByteArray)) (x3 : Int) : L_ref15_Entries_4 (x1, (x2, (x3, ()))) () = ltree_ref15_Entries_4 x1 x2 x3 L_ref15_Entries_4 some := runL_tree (A := LT_ref15_Entries_4) (B := LM_ref15_Entries_4) (R := LO_ref15_Entries_4) (fun a b kn kr => ltree_ref15_Entries_4 a.1 a.2.1 a.2.2.1 kn kr) (fun a b kn kr => nl_ref15_Entries_4 a.1 a.2.1 a.2.2.1 kn kr) (x1, (x2, (x3, ()))) ()
def tree_ref15_Entries (L_ref15_Entries_4 : LT_ref15_Entries_4 → LM_ref15_Entries_4 → Option LO_ref15_Entries_4) {α : Type} (x1 : List (Int × Int × ByteArray)) (x2 : List (Int × Int × ByteArray)) (K : O_ref15_Entries → Option α) : Option α :=
  cond ((↑x1.length : Int) != (↑x2.length : Int))
  (K (false, ()))
  ((L_ref15_Entries_4 (x1, x2, 0, ()) ()).bind fun r1 =>
   Sum.elim (fun u2 =>
    K (u2.fst.fst, ()))
   (fun u2 =>
    K (true, ())) (r1))
noncomputable def F_ref15_Entries : A_ref15_Entries → M_ref15_Entries → Option O_ref15_Entries := fun a b => tree_ref15_Entries L_ref15_Entries_4 a.1 a.2.1 some
theorem n_ref15_Entries (L_ref15_Entries_4 : LT_ref15_Entries_4 → LM_ref15_Entries_4 → Option LO_ref15_Entries_4) (x1 : List (Int × Int × ByteArray)) (x2 : List (Int × Int × ByteArray)) {α : Type} (K : O_ref15_Entries → Option α) : tree_ref15_Entries L_ref15_Entries_4 x1 x2 K = (tree_ref15_Entries L_ref15_Entries_4 x1 x2 some).bind K := by simp only [tree_ref15_Entries, bind_cond, bind_none', bind_some', bind_bind', bind_sum]
theorem Fe_ref15_Entries (x1 : List (Int × Int × ByteArray)) (x2 : List (Int × Int × ByteArray)) : F_ref15_Entries (x1, (x2, ())) () = tree_ref15_Entries L_ref15_Entries_4 x1 x2 some := rfl

/-! countersign/countersignref15.Is -/
def args_ref15_Is : SkL := (.cons (.agg (.cons (.leaf (.int .u64)) (.cons (.leaf (.int .u64)) (.cons (.leaf (.slc 37 (.cons (.int .u64) (.cons (.int .i64) (.cons .str .nil))))) .nil)))) (.cons (.agg (.cons (.leaf (.int .u64)) (.cons (.leaf (.int .u64)) (.cons (.leaf (.slc 37 (.cons (.int .u64) (.cons (.int .i64) (.cons .str .nil))))) .nil)))) .nil))
def mem_ref15_Is : MSk := []
def outs_ref15_Is : List OutC := [⟨(.leaf .bool), []⟩]
abbrev A_ref15_Is : Type := ((Int × Int × (List (Int × Int × ByteArray)) × Unit) × (Int × Int × (List (Int × Int × ByteArray)) × Unit) × Unit)
abbrev M_ref15_Is : Type := Unit
abbrev O_ref15_Is : Type := Bool × Unit
def tree_ref15_Is (F_ref15_Entries : A_ref15_Entries → M_ref15_Entries → Option O_ref15_Entries) {α : Type} (x1 : Int) (x2 : Int) (x3 : List (Int × Int × ByteArray)) (x4 : Int) (x5 : Int) (x6 : List (Int × Int × ByteArray)) (K : O_ref15_Is → Option α) : Option α :=
  cond (x1 == x4)
  (cond (x2 == x5)
   ((F_ref15_Entries (x3, x6, ()) ()).bind fun r1 =>
    K (r1.fst, ()))
   (K (false, ())))
  (K (false, ()))
noncomputable def F_ref15_Is : A_ref15_Is → M_ref15_Is → Option O_ref15_Is := fun a b => tree_ref15_Is F_ref15_Entries a.1.1 a.1.2.1 a.1.2.2.1 a.2.1.1 a.2.1.2.1 a.2.1.2.2.1 some
theorem n_ref15_Is (F_ref15_Entries : A_ref15_Entries → M_ref15_Entries → Option O_ref15_Entries) (x1 : Int) (x2 : Int) (x3 : List (Int × Int × ByteArray)) (x4 : Int) (x5 : Int) (x6 : List (Int × Int × ByteArray)) {α : Type} (K : O_ref15_Is → Option α) : tree_ref15_Is F_ref15_Entries x1 x2 x3 x4 x5 x6 K = (tree_ref15_Is F_ref15_Entries x1 x2 x3 x4 x5 x6 some).bind K := by simp only [tree_ref15_Is, bind_cond, bind_none', bind_some', bind_bind', bind_sum]
theorem Fe_ref15_Is (x1 : Int) (x2 : Int) (x3 : List (Int × Int × ByteArray)) (x4 : Int) (x5 : Int) (x6 : List (Int × Int × ByteArray)) : F_ref15_Is ((x1, (x2, (x3, ()))), ((x4, (x5, (x6, ()))), ())) () = tree_ref15_Is F_ref15_Entries x1 x2 x3 x4 x5 x6 some := rfl

/-! countersign/countersignref15.Newer -/
def args_ref15_Newer : SkL := (.cons (.agg (.cons (.leaf (.int .u64)) (.cons (.leaf (.int .u64)) (.cons (.leaf (.slc 37 (.cons (.int .u64) (.cons (.int .i64) (.cons .str .nil))))) .nil)))) (.cons (.leaf (.int .u64)) (.cons (.leaf (.int .u64)) .nil)))
def mem_ref15_Newer : MSk := []
def outs_ref15_Newer : List OutC := [⟨(.leaf .bool), []⟩]
abbrev A_ref15_Newer : Type := ((Int × Int × (List (Int × Int × ByteArray)) × Unit) × Int × Int × Unit)
abbrev M_ref15_Newer : Type := Unit
abbrev O_ref15_Newer : Type := Bool × Unit
def tree_ref15_Newer (F_ref15_Last : A_ref15_Last → M_ref15_Last → Option O_ref15_Last) (F_ref15_Term : A_ref15_Term → M_ref15_Term → Option O_ref15_Term) {α : Type} (x1 : Int) (x2 : Int) (x3 : List (Int × Int × ByteArray)) (x4 : Int) (x5 : Int) (K : O_ref15_Newer → Option α) : Option α :=
  (F_ref15_Last ((x1, x2, x3, ()), ()) ()).bind fun r1 =>
  (F_ref15_Term ((x1, x2, x3, ()), r1.fst, ()) ()).bind fun r2 =>
  cond (decide (x5 > r2.fst.fst))
  (K (true, ()))
  (cond (x5 == r2.fst.fst)
   ((F_ref15_Last ((x1, x2, x3, ()), ()) ()).bind fun r3 =>
    K (decide (x4 ≥ r3.fst), ()))
   (K (false, ())))
noncomputable def F_ref15_Newer : A_ref15_Newer → M_ref15_Newer → Option O_ref15_Newer := fun a b => tree_ref15_Newer F_ref15_Last F_ref15_Term a.1.1 a.1.2.1 a.1.2.2.1 a.2.1 a.2.2.1 some
theorem n_ref15_Newer (F_ref15_Last : A_ref15_Last → M_ref15_Last → Option O_ref15_Last) (F_ref15_Term : A_ref15_Term → M_ref15_Term → Option O_ref15_Term) (x1 : Int) (x2 : Int) (x3 : List (Int × Int × ByteArray)) (x4 : Int) (x5 : Int) {α : Type} (K : O_ref15_Newer → Option α) : tree_ref15_Newer F_ref15_Last F_ref15_Term x1 x2 x3 x4 x5 K = (tree_ref15_Newer F_ref15_Last F_ref15_Term x1 x2 x3 x4 x5 some).bind K := by simp only [tree_ref15_Newer, bind_cond, bind_none', bind_some', bind_bind', bind_sum]
theorem Fe_ref15_Newer (x1 : Int) (x2 : Int) (x3 : List (Int × Int × ByteArray)) (x4 : Int) (x5 : Int) : F_ref15_Newer ((x1, (x2, (x3, ()))), (x4, (x5, ()))) () = tree_ref15_Newer F_ref15_Last F_ref15_Term x1 x2 x3 x4 x5 some := rfl

/-! countersign/rlog.cover -/
def args_rlog_cover : SkL := (.cons (.agg (.cons (.leaf (.int .u64)) (.cons (.leaf (.int .u64)) (.cons (.leaf (.slc 37 (.cons (.int .u64) (.cons (.int .i64) (.cons .str .nil))))) .nil)))) (.cons (.leaf (.int .u64)) (.cons (.leaf (.int .u64)) (.cons (.leaf (.slc 37 (.cons (.int .u64) (.cons (.int .i64) (.cons .str .nil))))) .nil))))
def mem_rlog_cover : MSk := []
def outs_rlog_cover : List OutC := [⟨(.tup (.cons (.leaf (.int .u64)) (.cons (.leaf (.int .u64)) (.cons (.leaf (.slc 37 (.cons (.int .u64) (.cons (.int .i64) (.cons .str .nil))))) (.cons (.leaf .bool) .nil))))), []⟩]
abbrev A_rlog_cover : Type := ((Int × Int × (List (Int × Int × ByteArray)) × Unit) × Int × Int × (List (Int × Int × ByteArray)) × Unit)
abbrev M_rlog_cover : Type := Unit
abbrev O_rlog_cover : Type := (Int × Int × (List (Int × Int × ByteArray)) × Bool × Unit) × Unit
def tree_rlog_cover {α : Type} (x1 : Int) (x2 : Int) (x3 : List (Int × Int × ByteArray)) (x4 : Int) (x5 : Int) (x6 : List (Int × Int × ByteArray)) (K : O_rlog_cover → Option α) : Option α :=
  cond (decide (x4 ≥ x1))
  (K ((x4, (x5, (x6, (true, ())))), ()))
  (cond (decide (IntKind.u64.wrap (↑x6.length : Int) < IntKind.u64.wrap (x1 - x4)))
   (K ((0, (0, ([], (false, ())))), ()))
   (cond (decide (0 ≤ IntKind.u64.wrap (x1 - x4)))
    (cond (decide (IntKind.u64.wrap (x1 - x4) ≤ (↑x6.length : Int)))
     (K ((x1, (x2, (List.drop (IntKind.u64.wrap (x1 - x4)).toNat (List.take x6.length x6), (true, ())))), ()))
     (none))
    (none)))
noncomputable def F_rlog_cover : A_rlog_cover → M_rlog_cover → Option O_rlog_cover := fun a b => tree_rlog_cover a.1.1 a.1.2.1 a.1.2.2.1 a.2.1 a.2.2.1 a.2.2.2.1 some
theorem n_rlog_cover (x1 : Int) (x2 : Int) (x3 : List (Int × Int × ByteArray)) (x4 : Int) (x5 : Int) (x6 : List (Int × Int × ByteArray)) {α : Type} (K : O_rlog_cover → Option α) : tree_rlog_cover x1 x2 x3 x4 x5 x6 K = (tree_rlog_cover x1 x2 x3 x4 x5 x6 some).bind K := by simp only [tree_rlog_cover, bind_cond, bind_none', bind_some', bind_bind', bind_sum]
theorem Fe_rlog_cover (x1 : Int) (x2 : Int) (x3 : List (Int × Int × ByteArray)) (x4 : Int) (x5 : Int) (x6 : List (Int × Int × ByteArray)) : F_rlog_cover ((x1, (x2, (x3, ()))), (x4, (x5, (x6, ())))) () = tree_rlog_cover x1 x2 x3 x4 x5 x6 some := rfl

/-! slices.Grow<<>countersign/api.Entry,countersign/api.Entry> -/
def args_slices_Grow_api_Entry : SkL := (.cons (.const .nils) (.cons (.leaf (.int .i64)) .nil))
def mem_slices_Grow_api_Entry : MSk := []
def outs_slices_Grow_api_Entry : List OutC := [⟨(.const (.sl 0 0 0)), [(0, .row 37 (.cons (.int .u64) (.cons (.int .i64) (.cons .str .nil))))]⟩, ⟨(.const .nils), []⟩]
abbrev A_slices_Grow_api_Entry : Type := (Int × Unit)
abbrev M_slices_Grow_api_Entry : Type := Unit
abbrev O_slices_Grow_api_Entry : Type := (Unit × ((List (Int × Int × ByteArray)) × Unit)) ⊕ (Unit × Unit)
def tree_slices_Grow_api_Entry {α : Type} (x1 : Int) (K : O_slices_Grow_api_Entry → Option α) : Option α :=
  cond (decide (x1 < 0))
  (none)
  (cond (decide (IntKind.i64.wrap (x1 - 0) > 0))
   (cond (decide (0 < IntKind.i64.wrap (x1 - 0)))
    (cond (decide (IntKind.i64.wrap (x1 - 0) * 32 ≤ 140737488355328))
     (K (.inl ((), (List.replicate (IntKind.i64.wrap (x1 - 0)).toNat (0, 0, ByteArray.empty), ()))))
     (none))
    (none))
   (K (.inr ((), ()))))
noncomputable def F_slices_Grow_api_Entry : A_slices_Grow_api_Entry → M_slices_Grow_api_Entry → Option O_slices_Grow_api_Entry := fun a b => tree_slices_Grow_api_Entry a.1 some
theorem n_slices_Grow_api_Entry (x1 : Int) {α : Type} (K : O_slices_Grow_api_Entry → Option α) : tree_slices_Grow_api_Entry x1 K = (tree_slices_Grow_api_Entry x1 some).bind K := by simp only [tree_slices_Grow_api_Entry, bind_cond, bind_none', bind_some', bind_bind', bind_sum]
theorem Fe_slices_Grow_api_Entry (x1 : Int) : F_slices_Grow_api_Entry (x1, ()) () = tree_slices_Grow_api_Entry x1 some := rfl

/-! slices.Concat<<>countersign/api.Entry,countersign/api.Entry> -/
def args_slices_Concat_api_Entry : SkL := (.cons (.leaf (.slc 23 (.cons (.slc 37 (.cons (.int .u64) (.cons (.int .i64) (.cons .str .nil)))) .nil))) .nil)
def mem_slices_Concat_api_Entry : MSk := []
def outs_slices_Concat_api_Entry : List OutC := [⟨(.leaf (.slc 37 (.cons (.int .u64) (.cons (.int .i64) (.cons .str .nil))))), []⟩]
abbrev A_slices_Concat_api_Entry : Type := ((List ((List (Int × Int × ByteArray)))) × Unit)
abbrev M_slices_Concat_api_Entry : Type := Unit
abbrev O_slices_Concat_api_Entry : Type := (List (Int × Int × ByteArray)) × Unit
def ltmps_slices_Concat_api_Entry_3 : SkL := (.cons (.leaf (.slc 23 (.cons (.slc 37 (.cons (.int .u64) (.cons (.int .i64) (.cons .str .nil)))) .nil))) (.cons (.const .dead) (.cons (.const .dead) (.cons (.leaf (.int .i64)) (.cons (.const .dead) (.cons (.const .dead) (.cons (.const .dead) (.cons (.const .dead) (.cons (.const .dead) (.cons (.leaf (.slc 23 (.cons (.slc 37 (.cons (.int .u64) (.cons (.int .i64) (.cons .str .nil)))) .nil))) (.cons (.leaf (.int .i64)) (.cons (.leaf (.int .i64)) (.cons (.const .dead) (.cons (.const .dead) (.cons (.const .dead) (.cons (.const .dead) (.cons (.const .dead) (.cons (.const .dead) (.cons (.const .dead) (.cons (.const .dead) (.cons (.const .dead) (.cons (.const .dead) (.cons (.const .dead) (.cons (.const .dead) (.cons (.const .dead) (.cons (.const .dead) (.cons (.const .dead) (.cons (.const .dead) (.cons (.const .dead) (.cons (.const .dead) (.cons (.const .dead) (.cons (.const .dead) (.cons (.const .dead) (.cons (.const .dead) (.cons (.const .dead) (.cons (.const .dead) .nil))))))))))))))))))))))))))))))))))))
def lmem_slices_Concat_api_Entry_3 : MSk := []
def louts_slices_Concat_api_Entry_3 : List OutL := [⟨(.exit 0), (.cons (.leaf (.slc 23 (.cons (.slc 37 (.cons (.int .u64) (.cons (.int .i64) (.cons .str .nil)))) .nil))) (.cons (.const .dead) (.cons (.const .dead) (.cons (.leaf (.int .i64)) (.cons (.const .dead) (.cons (.const .dead) (.cons (.const .dead) (.cons (.const .dead) (.cons (.const .dead) (.cons (.const .dead) (.cons (.const .dead) (.cons (.const .dead) (.cons (.const .dead) (.cons (.const .dead) (.cons (.const .dead) (.cons (.const .dead) (.cons (.const .dead) (.cons (.const .dead) (.cons (.const .dead) (.cons (.const .dead) (.cons (.const .dead) (.cons (.const .dead) (.cons (.const .dead) (.cons (.const .dead) (.cons (.const .dead) (.cons (.const .dead) (.cons (.const .dead) (.cons (.const .dead) (.cons (.const .dead) (.cons (.const .dead) (.cons (.const .dead) (.cons (.const .dead) (.cons (.const .dead) (.cons (.const .dead) (.cons (.const .dead) (.cons (.const .dead) .nil)))))))))))))))))))))))))))))))))))), []⟩]
abbrev LT_slices_Concat_api_Entry_3 : Type := ((List ((List (Int × Int × ByteArray)))) × Int × (List ((List (Int × Int × ByteArray)))) × Int × Int × Unit)
abbrev LM_slices_Concat_api_Entry_3 : Type := Unit
abbrev LO_slices_Concat_api_Entry_3 : Type := ((List ((List (Int × Int × ByteArray)))) × Int × Unit) × Unit
def ltree_slices_Concat_api_Entry_3 {α : Type} (x1 : List ((List (Int × Int × ByteArray)))) (x2 : Int) (x3 : List ((List (Int × Int × ByteArray)))) (x4 : Int) (x5 : Int) (kn : LT_slices_Concat_api_Entry_3 → LM_slices_Concat_api_Entry_3 → Option α) (kr : LO_slices_Concat_api_Entry_3 → Option α) : Option α :=
  cond (decide (x5 < x4))
  (cond (decide (0 ≤ x5))
   (cond (decide (x5 < (↑x3.length : Int)))
    (cond (decide (IntKind.i64.wrap (x2 + (↑(x3.getD x5.toNat []).length : Int)) < 0))
     (none)
     (kn (x1, (IntKind.i64.wrap (x2 + (↑(x3.getD x5.toNat []).length : Int)), (x3, (x4, (IntKind.i64.wrap (x5 + 1), ()))))) ()))
    (none))
   (none))
  (kr ((x1, (x2, ())), ()))
noncomputable def L_slices_Concat_api_Entry_3 : LT_slices_Concat_api_Entry_3 → LM_slices_Concat_api_Entry_3 → Option LO_slices_Concat_api_Entry_3 := fun x y => runL (fun p => (fun (a : LT_slices_Concat_api_Entry_3) (b : LM_slices_Concat_api_Entry_3) => ltree_slices_Concat_api_Entry_3 a.1 a.2.1 a.2.2.1 a.2.2.2.1 a.2.2.2.2.1 (fun a' b' => some (.inl (a', b'))) fun r => some (.inr r)) p.1 p.2) (x, y)
theorem nl_slices_Concat_api_Entry_3 (x1 : List ((List (Int × Int × ByteArray)))) (x2 : Int) (x3 : List ((List (Int × Int × ByteArray)))) (x4 : Int) (x5 : Int) {α : Type} (kn : LT_slices_Concat_api_Entry_3 → LM_slices_Concat_api_Entry_3 → Option α) (kr : LO_slices_Concat_api_Entry_3 → Option α) : ltree_slices_Concat_api_Entry_3 x1 x2 x3 x4 x5 kn kr = (ltree_slices_Concat_api_Entry_3 x1 x2 x3 x4 x5 (fun a b => some (.inl (a, b))) fun r => some (.inr r)).bind (Sum.elim (fun p : LT_slices_Concat_api_Entry_3 × LM_slices_Concat_api_Entry_3 => kn p.1 p.2) kr) := by simp only [ltree_slices_Concat_api_Entry_3, bind_cond, bind_none', bind_some', bind_bind', bind_sum, Sum.elim_inl, Sum.elim_inr]
theorem Le_slices_Concat_api_Entry_3 (x1 : List ((List (Int × Int × ByteArray)))) (x2 : Int) (x3 : List ((List (Int × Int × ByteArray)))) (x4 : Int) (x5 : Int) : L_slices_Concat_api_Entry_3 (x1, (x2, (x3, (x4, (x5, ()))))) () = ltree_slices_Concat_api_Entry_3 x1 x2 x3 x4 x5 L_slices_Concat_api_Entry_3 some := runL_tree (A := LT_slices_Concat_api_Entry_3) (B := LM_slices_Concat_api_Entry_3) (R := LO_slices_Concat_api_Entry_3) (fun a b kn kr => ltree_slices_Concat_api_Entry_3 a.1 a.2.1 a.2.2.1 a.2.2.2.1 a.2.2.2.2.1 kn kr) (fun a b kn kr => nl_slices_Concat_api_Entry_3 a.1 a.2.1 a.2.2.1 a.2.2.2.1 a.2.2.2.2.1 kn kr) (x1, (x2, (x3, (x4, (x5, ()))))) ()
def ltmps_slices_Concat_api_Entry_11 : SkL := (.cons (.const .dead) (.cons (.const .dead) (.cons (.const .dead) (.cons (.const .dead) (.cons (.const .dead) (.cons (.const .dead) (.cons (.const (.slw 506)) (.cons (.const .dead) (.cons (.const .dead) (.cons (.const .dead) (.cons (.const .dead) (.cons (.const .dead) (.cons (.const .dead) (.cons (.const .dead) (.cons (.const .dead) (.cons (.const .dead) (.cons (.const .dead) (.cons (.const .dead) (.cons (.const .dead) (.cons (.const .dead) (.cons (.const .dead) (.cons (.const .dead) (.cons (.const .dead) (.cons (.const .dead) (.cons (.const .dead) (.cons (.leaf (.slc 23 (.cons (.slc 37 (.cons (.int .u64) (.cons (.int .i64) (.cons .str .nil)))) .nil))) (.cons (.leaf (.int .i64)) (.cons (.leaf (.int .i64)) (.cons (.const .dead) (.cons (.const .dead) (.cons (.const .dead) (.cons (.const .dead) (.cons (.const .dead) (.cons (.const .dead) (.cons (.const .dead) (.cons (.const .dead) .nil))))))))))))))))))))))))))))))))))))
def lmem_slices_Concat_api_Entry_11 : MSk := [(506, .row 37 (.cons (.int .u64) (.cons (.int .i64) (.cons .str .nil))))]
def louts_slices_Concat_api_Entry_11 : List OutL := [⟨(.exit 2), (.cons (.const .dead) (.cons (.const .dead) (.cons (.const .dead) (.cons (.const .dead) (.cons (.const .dead) (.cons (.const .dead) (.cons (.const (.slw 506)) (.cons (.const .dead) (.cons (.const .dead) (.cons (.const .dead) (.cons (.const .dead) (.cons (.const .dead) (.cons (.const .dead) (.cons (.const .dead) (.cons (.const .dead) (.cons (.const .dead) (.cons (.const .dead) (.cons (.const .dead) (.cons (.const .dead) (.cons (.const .dead) (.cons (.const .dead) (.cons (.const .dead) (.cons (.const .dead) (.cons (.const .dead) (.cons (.const .dead) (.cons (.const .dead) (.cons (.const .dead) (.cons (.const .dead) (.cons (.const .dead) (.cons (.const .dead) (.cons (.const .dead) (.cons (.const .dead) (.cons (.const .dead) (.cons (.const .dead) (.cons (.const .dead) (.cons (.const .dead) .nil)))))))))))))))))))))))))))))))))))), [(506, .row 37 (.cons (.int .u64) (.cons (.int .i64) (.cons .str .nil))))]⟩]
abbrev LT_slices_Concat_api_Entry_11 : Type := ((List ((List (Int × Int × ByteArray)))) × Int × Int × Unit)
abbrev LM_slices_Concat_api_Entry_11 : Type := ((List (Int × Int × ByteArray)) × Unit)
abbrev LO_slices_Concat_api_Entry_11 : Type := Unit × ((List (Int × Int × ByteArray)) × Unit)
def ltree_slices_Concat_api_Entry_11 {α : Type} (x1 : List ((List (Int × Int × ByteArray)))) (x2 : Int) (x3 : Int) (x4 : List (Int × Int × ByteArray)) (kn : LT_slices_Concat_api_Entry_11 → LM_slices_Concat_api_Entry_11 → Option α) (kr : LO_slices_Concat_api_Entry_11 → Option α) : Option α :=
  cond (decide (x3 < x2))
  (cond (decide (0 ≤ x3))
   (cond (decide (x3 < (↑x1.length : Int)))
    (cond (decide ((x4.length + (x1.getD x3.toNat []).length) * 32 ≤ 140737488355328))
     (kn (x1, (x2, (IntKind.i64.wrap (x3 + 1), ()))) (x4 ++ x1.getD x3.toNat [], ()))
     (none))
    (none))
   (none))
  (kr ((), (x4, ())))
noncomputable def L_slices_Concat_api_Entry_11 : LT_slices_Concat_api_Entry_11 → LM_slices_Concat_api_Entry_11 → Option LO_slices_Concat_api_Entry_11 := fun x y => runL (fun p => (fun (a : LT_slices_Concat_api_Entry_11) (b : LM_slices_Concat_api_Entry_11) => ltree_slices_Concat_api_Entry_11 a.1 a.2.1 a.2.2.1 b.1 (fun a' b' => some (.inl (a', b'))) fun r => some (.inr r)) p.1 p.2) (x, y)
theorem nl_slices_Concat_api_Entry_11 (x1 : List ((List (Int × Int × ByteArray)))) (x2 : Int) (x3 : Int) (x4 : List (Int × Int × ByteArray)) {α : Type} (kn : LT_slices_Concat_api_Entry_11 → LM_slices_Concat_api_Entry_11 → Option α) (kr : LO_slices_Concat_api_Entry_11 → Option α) : ltree_slices_Concat_api_Entry_11 x1 x2 x3 x4 kn kr = (ltree_slices_Concat_api_Entry_11 x1 x2 x3 x4 (fun a b => some (.inl (a, b))) fun r => some (.inr r)).bind (Sum.elim (fun p : LT_slices_Concat_api_Entry_11 × LM_slices_Concat_api_Entry_11 => kn p.1 p.2) kr) := by simp only [ltree_slices_Concat_api_Entry_11, bind_cond, bind_none', bind_some', bind_bind', bind_sum, Sum.elim_inl, Sum.elim_inr]
theorem Le_slices_Concat_api_Entry_11 (x1 : List ((List (Int × Int × ByteArray)))) (x2 : Int) (x3 : Int) (x4 : List (Int × Int × ByteArray)) : L_slices_Concat_api_Entry_11 (x1, (x2, (x3, ()))) (x4, ()) = ltree_slices_Concat_api_Entry_11 x1 x2 x3 x4 L_slices_Concat_api_Entry_11 some := runL_tree (A := LT_slices_Concat_api_Entry_11) (B := LM_slices_Concat_api_Entry_11) (R := LO_slices_Concat_api_Entry_11) (fun a b kn kr => ltree_slices_Concat_api_Entry_11 a.1 a.2.1 a.2.2.1 b.1 kn kr) (fun a b kn kr => nl_slices_Concat_api_Entry_11 a.1 a.2.1 a.2.2.1 b.1 kn kr) (x1, (x2, (x3, ()))) (x4, ())
def tree_slices_Concat_api_Entry (F_slices_Grow_api_Entry : A_slices_Grow_api_Entry → M_slices_Grow_api_Entry → Option O_slices_Grow_api_Entry) (L_slices_Concat_api_Entry_3 : LT_slices_Concat_api_Entry_3 → LM_slices_Concat_api_Entry_3 → Option LO_slices_Concat_api_Entry_3) (L_slices_Concat_api_Entry_11 : LT_slices_Concat_api_Entry_11 → LM_slices_Concat_api_Entry_11 → Option LO_slices_Concat_api_Entry_11) {α : Type} (x1 : List ((List (Int × Int × ByteArray)))) (K : O_slices_Concat_api_Entry → Option α) : Option α :=
  (L_slices_Concat_api_Entry_3 (x1, 0, x1, (↑x1.length : Int), 0, ()) ()).bind fun r1 =>
  (F_slices_Grow_api_Entry (r1.fst.snd.fst, ()) ()).bind fun r2 =>
  Sum.elim (fun u3 =>
   (L_slices_Concat_api_Entry_11 (r1.fst.fst, (↑r1.fst.fst.length : Int), 0, ()) (List.take 0 u3.snd.fst, ())).bind fun r4 =>
   K (r4.snd.fst, ()))
  (fun u3 =>
   (L_slices_Concat_api_Entry_11 (r1.fst.fst, (↑r1.fst.fst.length : Int), 0, ()) ([], ())).bind fun r5 =>
   K (r5.snd.fst, ())) (r2)
noncomputable def F_slices_Concat_api_Entry : A_slices_Concat_api_Entry → M_slices_Concat_api_Entry → Option O_slices_Concat_api_Entry := fun a b => tree_slices_Concat_api_Entry F_slices_Grow_api_Entry L_slices_Concat_api_Entry_3 L_slices_Concat_api_Entry_11 a.1 some
theorem n_slices_Concat_api_Entry (F_slices_Grow_api_Entry : A_slices_Grow_api_Entry → M_slices_Grow_api_Entry → Option O_slices_Grow_api_Entry) (L_slices_Concat_api_Entry_3 : LT_slices_Concat_api_Entry_3 → LM_slices_Concat_api_Entry_3 → Option LO_slices_Concat_api_Entry_3) (L_slices_Concat_api_Entry_11 : LT_slices_Concat_api_Entry_11 → LM_slices_Concat_api_Entry_11 → Option LO_slices_Concat_api_Entry_11) (x1 : List ((List (Int × Int × ByteArray)))) {α : Type} (K : O_slices_Concat_api_Entry → Option α) : tree_slices_Concat_api_Entry F_slices_Grow_api_Entry L_slices_Concat_api_Entry_3 L_slices_Concat_api_Entry_11 x1 K = (tree_slices_Concat_api_Entry F_slices_Grow_api_Entry L_slices_Concat_api_Entry_3 L_slices_Concat_api_Entry_11 x1 some).bind K := by simp only [tree_slices_Concat_api_Entry, bind_cond, bind_none', bind_some', bind_bind', bind_sum]
theorem Fe_slices_Concat_api_Entry (x1 : List ((List (Int × Int × ByteArray)))) : F_slices_Concat_api_Entry (x1, ()) () = tree_slices_Concat_api_Entry F_slices_Grow_api_Entry L_slices_Concat_api_Entry_3 L_slices_Concat_api_Entry_11 x1 some := rfl

/-! countersign/countersignref15.Lay -/
def args_ref15_Lay : SkL := (.cons (.agg (.cons (.leaf (.int .u64)) (.cons (.leaf (.int .u64)) (.cons (.leaf (.slc 37 (.cons (.int .u64) (.cons (.int .i64) (.cons .str .nil))))) .nil)))) (.cons (.leaf (.int .u64)) (.cons (.leaf (.slc 37 (.cons (.int .u64) (.cons (.int .i64) (.cons .str .nil))))) .nil)))
def mem_ref15_Lay : MSk := []
def outs_ref15_Lay : List OutC := [⟨(.agg (.cons (.leaf (.int .u64)) (.cons (.leaf (.int .u64)) (.cons (.leaf (.slc 37 (.cons (.int .u64) (.cons (.int .i64) (.cons .str .nil))))) .nil)))), []⟩]
abbrev A_ref15_Lay : Type := ((Int × Int × (List (Int × Int × ByteArray)) × Unit) × Int × (List (Int × Int × ByteArray)) × Unit)
abbrev M_ref15_Lay : Type := Unit
abbrev O_ref15_Lay : Type := (Int × Int × (List (Int × Int × ByteArray)) × Unit) × Unit
def ltmps_ref15_Lay_3 : SkL := (.cons (.const .dead) (.cons (.leaf (.int .u64)) (.cons (.leaf (.slc 37 (.cons (.int .u64) (.cons (.int .i64) (.cons .str .nil))))) (.cons (.const (.ptr 1096 0 0)) (.cons (.const .dead) (.cons (.const .dead) (.cons (.const (.ptr 1192 0 0)) (.cons (.const (.ptr 1224 0 0)) (.cons (.leaf (.int .u64)) (.cons (.const .dead) (.cons (.const .dead) (.cons (.const .dead) (.cons (.const .dead) (.cons (.const .dead) (.cons (.const .dead) (.cons (.const .dead) (.cons (.const .dead) (.cons (.const .dead) (.cons (.const .dead) (.cons (.const .dead) (.cons (.const .dead) (.cons (.const .dead) (.cons (.const .dead) (.cons (.const .dead) (.cons (.const .dead) (.cons (.const .dead) (.cons (.const .dead) (.cons (.const .dead) (.cons (.const .dead) (.cons (.const .dead) (.cons (.const .dead) (.cons (.const .dead) (.cons (.const .dead) (.cons (.const .dead) (.cons (.const .dead) (.cons (.const .dead) (.cons (.const .dead) (.cons (.const .dead) (.cons (.const .dead) (.cons (.const .dead) (.cons (.const .dead) (.cons (.const .dead) .nil))))))))))))))))))))))))))))))))))))))))))
def lmem_ref15_Lay_3 : MSk := [(507, .row 37 (.cons (.int .u64) (.cons (.int .i64) (.cons .str .nil)))), (1096, .cells (.cons (.leaf (.int .u64)) (.cons (.leaf (.int .u64)) (.cons (.leaf (.slc 37 (.cons (.int .u64) (.cons (.int .i64) (.cons .str .nil))))) .nil)))), (1192, .cells (.cons (.leaf (.int .u64)) (.cons (.leaf (.int .u64)) (.cons (.const .nils) .nil)))), (1224, .cells (.cons (.leaf (.int .u64)) (.cons (.leaf (.int .u64)) (.cons (.const (.slw 507)) .nil))))]
def louts_ref15_Lay_3 : List OutL := [⟨(.exit 0), (.cons (.const .dead) (.cons (.const .dead) (.cons (.leaf (.slc 37 (.cons (.int .u64) (.cons (.int .i64) (.cons .str .nil))))) (.cons (.const .dead) (.cons (.const .dead) (.cons (.const .dead) (.cons (.const (.ptr 1192 0 0)) (.cons (.const (.ptr 1224 0 0)) (.cons (.const .dead) (.cons (.const .dead) (.cons (.const .dead) (.cons (.const .dead) (.cons (.const .dead) (.cons (.const .dead) (.cons (.const .dead) (.cons (.const .dead) (.cons (.const .dead) (.cons (.const .dead) (.cons (.const .dead) (.cons (.const .dead) (.cons (.const .dead) (.cons (.const .dead) (.cons (.const .dead) (.cons (.const .dead) (.cons (.const .dead) (.cons (.const .dead) (.cons (.const .dead) (.cons (.const .dead) (.cons (.const .dead) (.cons (.const .dead) (.cons (.const .dead) (.cons (.const .dead) (.cons (.const .dead) (.cons (.const .dead) (.cons (.const .dead) (.cons (.const .dead) (.cons (.const .dead) (.cons (.const .dead) (.cons (.const .dead) (.cons (.const .dead) (.cons (.const .dead) (.cons (.const .dead) .nil)))))))))))))))))))))))))))))))))))))))))), [(507, .row 37 (.cons (.int .u64) (.cons (.int .i64) (.cons .str .nil)))), (1192, .cells (.cons (.leaf (.int .u64)) (.cons (.leaf (.int .u64)) (.cons (.const .nils) .nil)))), (1224, .cells (.cons (.leaf (.int .u64)) (.cons (.leaf (.int .u64)) (.cons (.const (.slw 507)) .nil))))]⟩]
abbrev LT_ref15_Lay_3 : Type := (Int × (List (Int × Int × ByteArray)) × Int × Unit)
abbrev LM_ref15_Lay_3 : Type := ((List (Int × Int × ByteArray)) × (Int × Int × (List (Int × Int × ByteArray)) × Unit) × (Int × Int × Unit) × (Int × Int × Unit) × Unit)
abbrev LO_ref15_Lay_3 : Type := ((List (Int × Int × ByteArray)) × Unit) × ((List (Int × Int × ByteArray)) × (Int × Int × Unit) × (Int × Int × Unit) × Unit)
def ltree_ref15_Lay_3 (F_ref15_Entry : A_ref15_Entry → M_ref15_Entry → Option O_ref15_Entry) {α : Type} (x1 : Int) (x2 : List (Int × Int × ByteArray)) (x3 : Int) (x4 : List (Int × Int × ByteArray)) (x5 : Int) (x6 : Int) (x7 : List (Int × Int × ByteArray)) (x8 : Int) (x9 : Int) (x10 : Int) (x11 : Int) (kn : LT_ref15_Lay_3 → LM_ref15_Lay_3 → Option α) (kr : LO_ref15_Lay_3 → Option α) : Option α :=
  cond (decide (x3 ≤ x1))
  ((F_ref15_Entry ((x5, x6, x7, ()), x3, ()) ()).bind fun r1 =>
   cond (decide   ((x4.length + ([] ++ [(r1.fst.fst.fst, r1.fst.fst.snd.fst, r1.fst.fst.snd.snd.fst)]).length) * 32 ≤ 140737488355328))
   (kn (x1, (x2, (IntKind.u64.wrap (x3 + 1), ()))) (x4 ++ ([] ++ [(r1.fst.fst.fst, r1.fst.fst.snd.fst, r1.fst.fst.snd.snd.fst)]), ((x5, (x6, (x7, ()))), ((x8, (x9, ())), ((x10, (x11, ())), ())))))
   (none))
  (kr ((x2, ()), (x4, ((x8, (x9, ())), ((x10, (x11, ())), ())))))
noncomputable def L_ref15_Lay_3 : LT_ref15_Lay_3 → LM_ref15_Lay_3 → Option LO_ref15_Lay_3 := fun x y => runL (fun p => (fun (a : LT_ref15_Lay_3) (b : LM_ref15_Lay_3) => ltree_ref15_Lay_3 F_ref15_Entry a.1 a.2.1 a.2.2.1 b.1 b.2.1.1 b.2.1.2.1 b.2.1.2.2.1 b.2.2.1.1 b.2.2.1.2.1 b.2.2.2.1.1 b.2.2.2.1.2.1 (fun a' b' => some (.inl (a', b'))) fun r => some (.inr r)) p.1 p.2) (x, y)
theorem nl_ref15_Lay_3 (F_ref15_Entry : A_ref15_Entry → M_ref15_Entry → Option O_ref15_Entry) (x1 : Int) (x2 : List (Int × Int × ByteArray)) (x3 : Int) (x4 : List (Int × Int × ByteArray)) (x5 : Int) (x6 : Int) (x7 : List (Int × Int × ByteArray)) (x8 : Int) (x9 : Int) (x10 : Int) (x11 : Int) {α : Type} (kn : LT_ref15_Lay_3 → LM_ref15_Lay_3 → Option α) (kr : LO_ref15_Lay_3 → Option α) : ltree_ref15_Lay_3 F_ref15_Entry x1 x2 x3 x4 x5 x6 x7 x8 x9 x10 x11 kn kr = (ltree_ref15_Lay_3 F_ref15_Entry x1 x2 x3 x4 x5 x6 x7 x8 x9 x10 x11 (fun a b => some (.inl (a, b))) fun r => some (.inr r)).bind (Sum.elim (fun p : LT_ref15_Lay_3 × LM_ref15_Lay_3 => kn p.1 p.2) kr) := by simp only [ltree_ref15_Lay_3, bind_cond, bind_none', bind_some', bind_bind', bind_sum, Sum.elim_inl, Sum.elim_inr]
theorem Le_ref15_Lay_3 (x1 : Int) (x2 : List (Int × Int × ByteArray)) (x3 : Int) (x4 : List (Int × Int × ByteArray)) (x5 : Int) (x6 : Int) (x7 : List (Int × Int × ByteArray)) (x8 : Int) (x9 : Int) (x10 : Int) (x11 : Int) : L_ref15_Lay_3 (x1, (x2, (x3, ()))) (x4, ((x5, (x6, (x7, ()))), ((x8, (x9, ())), ((x10, (x11, ())), ())))) = ltree_ref15_Lay_3 F_ref15_Entry x1 x2 x3 x4 x5 x6 x7 x8 x9 x10 x11 L_ref15_Lay_3 some := runL_tree (A := LT_ref15_Lay_3) (B := LM_ref15_Lay_3) (R := LO_ref15_Lay_3) (fun a b kn kr => ltree_ref15_Lay_3 F_ref15_Entry a.1 a.2.1 a.2.2.1 b.1 b.2.1.1 b.2.1.2.1 b.2.1.2.2.1 b.2.2.1.1 b.2.2.1.2.1 b.2.2.2.1.1 b.2.2.2.1.2.1 kn kr) (fun a b kn kr => nl_ref15_Lay_3 F_ref15_Entry a.1 a.2.1 a.2.2.1 b.1 b.2.1.1 b.2.1.2.1 b.2.1.2.2.1 b.2.2.1.1 b.2.2.1.2.1 b.2.2.2.1.1 b.2.2.2.1.2.1 kn kr) (x1, (x2, (x3, ()))) (x4, ((x5, (x6, (x7, ()))), ((x8, (x9, ())), ((x10, (x11, ())), ()))))
def tree_ref15_Lay (L_ref15_Lay_3 : LT_ref15_Lay_3 → LM_ref15_Lay_3 → Option LO_ref15_Lay_3) {α : Type} (x1 : Int) (x2 : Int) (x3 : List (Int × Int × ByteArray)) (x4 : Int) (x5 : List (Int × Int × ByteArray)) (K : O_ref15_Lay → Option α) : Option α :=
  (L_ref15_Lay_3 (x4, x5, IntKind.u64.wrap (x1 + 1), ())   ([], (x1, x2, x3, ()), (0, 0, ()), (x1, x2, ()), ())).bind fun r1 =>
  cond (decide ((r1.snd.fst.length + r1.fst.fst.length) * 32 ≤ 140737488355328))
  (K ((r1.snd.snd.snd.fst.fst, (r1.snd.snd.snd.fst.snd.fst, (r1.snd.fst ++ r1.fst.fst, ()))), ()))
  (none)
noncomputable def F_ref15_Lay : A_ref15_Lay → M_ref15_Lay → Option O_ref15_Lay := fun a b => tree_ref15_Lay L_ref15_Lay_3 a.1.1 a.1.2.1 a.1.2.2.1 a.2.1 a.2.2.1 some
theorem n_ref15_Lay (L_ref15_Lay_3 : LT_ref15_Lay_3 → LM_ref15_Lay_3 → Option LO_ref15_Lay_3) (x1 : Int) (x2 : Int) (x3 : List (Int × Int × ByteArray)) (x4 : Int) (x5 : List (Int × Int × ByteArray)) {α : Type} (K : O_ref15_Lay → Option α) : tree_ref15_Lay L_ref15_Lay_3 x1 x2 x3 x4 x5 K = (tree_ref15_Lay L_ref15_Lay_3 x1 x2 x3 x4 x5 some).bind K := by simp only [tree_ref15_Lay, bind_cond, bind_none', bind_some', bind_bind', bind_sum]
theorem Fe_ref15_Lay (x1 : Int) (x2 : Int) (x3 : List (Int × Int × ByteArray)) (x4 : Int) (x5 : List (Int × Int × ByteArray)) : F_ref15_Lay ((x1, (x2, (x3, ()))), (x4, (x5, ()))) () = tree_ref15_Lay L_ref15_Lay_3 x1 x2 x3 x4 x5 some := rfl

end Go.Proofs.Ytlmiaagcnhgfmaa.S2
