/- Plain forms of the program's functions, by program. -/
import Derived.Test.YtlfedmjjjbhnpaaS2y
import Derived.Lib.Repeat
set_option maxRecDepth 100000
set_option maxHeartbeats 0
set_option linter.unusedVariables false
set_option linter.unusedSimpArgs false
namespace Go.Proofs.Ytlfedmjjjbhnpaa.S2
open Go
/-! countersign/countersignref01.PutUint -/
def args_ref01_PutUint : SkL := (.cons (.leaf (.int .u64)) .nil)
def mem_ref01_PutUint : MSk := []
def outs_ref01_PutUint : List OutC := [⟨(.leaf .str), []⟩]
abbrev A_ref01_PutUint : Type := (Int × Unit)
abbrev M_ref01_PutUint : Type := Unit
abbrev O_ref01_PutUint : Type := ByteArray × Unit
def ltmps_ref01_PutUint_2 : SkL := (.cons (.leaf (.int .u64)) (.cons (.const .dead) (.cons (.const .dead) (.cons (.const (.slw 503)) (.cons (.const .dead) (.cons (.const .dead) (.cons (.const .dead) (.cons (.const .dead) (.cons (.const .dead) (.cons (.const .dead) (.cons (.const .dead) (.cons (.const .dead) (.cons (.const .dead) (.cons (.const .dead) (.cons (.const .dead) (.cons (.const .dead) (.cons (.const .dead) (.cons (.const .dead) (.cons (.const .dead) (.cons (.const .dead) (.cons (.const .dead) (.cons (.const .dead) (.cons (.const .dead) .nil)))))))))))))))))))))))
def lmem_ref01_PutUint_2 : MSk := [(503, .row 5 (.cons (.int .u8) .nil))]
def louts_ref01_PutUint_2 : List OutL := [⟨(.exit 0), (.cons (.leaf (.int .u64)) (.cons (.const .dead) (.cons (.const .dead) (.cons (.const (.slw 503)) (.cons (.const .dead) (.cons (.const .dead) (.cons (.const .dead) (.cons (.const .dead) (.cons (.const .dead) (.cons (.const .dead) (.cons (.const .dead) (.cons (.const .dead) (.cons (.const .dead) (.cons (.const .dead) (.cons (.const .dead) (.cons (.const .dead) (.cons (.const .dead) (.cons (.const .dead) (.cons (.const .dead) (.cons (.const .dead) (.cons (.const .dead) (.cons (.const .dead) (.cons (.const .dead) .nil))))))))))))))))))))))), [(503, .row 5 (.cons (.int .u8) .nil))]⟩]
abbrev LT_ref01_PutUint_2 : Type := (Int × Unit)
abbrev LM_ref01_PutUint_2 : Type := (List Int × Unit)
abbrev LO_ref01_PutUint_2 : Type := (Int × Unit) × (List Int × Unit)
def ltree_ref01_PutUint_2 {α : Type} (x1 : Int) (x2 : List Int) (kn : LT_ref01_PutUint_2 → LM_ref01_PutUint_2 → Option α) (kr : LO_ref01_PutUint_2 → Option α) : Option α :=
  cond (decide (x1 > 127))
  (cond (decide   ((x2.length + 1) * 1 ≤ 140737488355328))
   (kn (IntKind.u64.wrap (x1.tdiv 128), ()) (x2 ++ ([] ++ [IntKind.u8.wrap (IntKind.u64.wrap (x1.tmod 128 + 128))]), ()))
   (none))
  (kr ((x1, ()), (x2, ())))
noncomputable def L_ref01_PutUint_2 : LT_ref01_PutUint_2 → LM_ref01_PutUint_2 → Option LO_ref01_PutUint_2 := fun x y => runL (fun p => (fun (a : LT_ref01_PutUint_2) (b : LM_ref01_PutUint_2) => ltree_ref01_PutUint_2 a.1 b.1 (fun a' b' => some (.inl (a', b'))) fun r => some (.inr r)) p.1 p.2) (x, y)
theorem nl_ref01_PutUint_2 (x1 : Int) (x2 : List Int) {α : Type} (kn : LT_ref01_PutUint_2 → LM_ref01_PutUint_2 → Option α) (kr : LO_ref01_PutUint_2 → Option α) : ltree_ref01_PutUint_2 x1 x2 kn kr = (ltree_ref01_PutUint_2 x1 x2 (fun a b => some (.inl (a, b))) fun r => some (.inr r)).bind (Sum.elim (fun p : LT_ref01_PutUint_2 × LM_ref01_PutUint_2 => kn p.1 p.2) kr) := by simp only [ltree_ref01_PutUint_2, bind_cond, bind_none', bind_some', bind_bind', bind_sum, Sum.elim_inl, Sum.elim_inr]
theorem Le_ref01_PutUint_2 (x1 : Int) (x2 : List Int) : L_ref01_PutUint_2 (x1, ()) (x2, ()) = ltree_ref01_PutUint_2 x1 x2 L_ref01_PutUint_2 some := runL_tree (A := LT_ref01_PutUint_2) (B := LM_ref01_PutUint_2) (R := LO_ref01_PutUint_2) (fun a b kn kr => ltree_ref01_PutUint_2 a.1 b.1 kn kr) (fun a b kn kr => nl_ref01_PutUint_2 a.1 b.1 kn kr) (x1, ()) (x2, ())
def tree_ref01_PutUint (L_ref01_PutUint_2 : LT_ref01_PutUint_2 → LM_ref01_PutUint_2 → Option LO_ref01_PutUint_2) {α : Type} (x1 : Int) (K : O_ref01_PutUint → Option α) : Option α :=
  (L_ref01_PutUint_2 (x1, ()) ([], ())).bind fun r1 =>
  cond (decide ((r1.snd.fst.length + 1) * 1 ≤ 140737488355328))
  (K (Go.strOfNums (r1.snd.fst ++ ([] ++ [IntKind.u8.wrap r1.fst.fst])), ()))
  (none)
noncomputable def F_ref01_PutUint : A_ref01_PutUint → M_ref01_PutUint → Option O_ref01_PutUint := fun a b => tree_ref01_PutUint L_ref01_PutUint_2 a.1 some
theorem n_ref01_PutUint (L_ref01_PutUint_2 : LT_ref01_PutUint_2 → LM_ref01_PutUint_2 → Option LO_ref01_PutUint_2) (x1 : Int) {α : Type} (K : O_ref01_PutUint → Option α) : tree_ref01_PutUint L_ref01_PutUint_2 x1 K = (tree_ref01_PutUint L_ref01_PutUint_2 x1 some).bind K := by simp only [tree_ref01_PutUint, bind_cond, bind_none', bind_some', bind_bind', bind_sum]
theorem Fe_ref01_PutUint (x1 : Int) : F_ref01_PutUint (x1, ()) () = tree_ref01_PutUint L_ref01_PutUint_2 x1 some := rfl

/-! countersign/countersignref01.PutText -/
def args_ref01_PutText : SkL := (.cons (.leaf .str) .nil)
def mem_ref01_PutText : MSk := []
def outs_ref01_PutText : List OutC := [⟨(.leaf .str), []⟩]
abbrev A_ref01_PutText : Type := (ByteArray × Unit)
abbrev M_ref01_PutText : Type := Unit
abbrev O_ref01_PutText : Type := ByteArray × Unit
def tree_ref01_PutText (F_ref01_PutUint : A_ref01_PutUint → M_ref01_PutUint → Option O_ref01_PutUint) {α : Type} (x1 : ByteArray) (K : O_ref01_PutText → Option α) : Option α :=
  (F_ref01_PutUint (IntKind.u64.wrap (↑x1.size : Int), ()) ()).bind fun r1 =>
  cond (decide (r1.fst.size + x1.size ≤ 9223372036854775807))
  (K (r1.fst ++ x1, ()))
  (none)
noncomputable def F_ref01_PutText : A_ref01_PutText → M_ref01_PutText → Option O_ref01_PutText := fun a b => tree_ref01_PutText F_ref01_PutUint a.1 some
theorem n_ref01_PutText (F_ref01_PutUint : A_ref01_PutUint → M_ref01_PutUint → Option O_ref01_PutUint) (x1 : ByteArray) {α : Type} (K : O_ref01_PutText → Option α) : tree_ref01_PutText F_ref01_PutUint x1 K = (tree_ref01_PutText F_ref01_PutUint x1 some).bind K := by simp only [tree_ref01_PutText, bind_cond, bind_none', bind_some', bind_bind', bind_sum]
theorem Fe_ref01_PutText (x1 : ByteArray) : F_ref01_PutText (x1, ()) () = tree_ref01_PutText F_ref01_PutUint x1 some := rfl

/-! countersign/countersignref01.TakeUint -/
def args_ref01_TakeUint : SkL := (.cons (.leaf .str) .nil)
def mem_ref01_TakeUint : MSk := []
def outs_ref01_TakeUint : List OutC := [⟨(.tup (.cons (.leaf (.int .u64)) (.cons (.leaf .str) (.cons (.leaf .bool) .nil)))), []⟩]
abbrev A_ref01_TakeUint : Type := (ByteArray × Unit)
abbrev M_ref01_TakeUint : Type := Unit
abbrev O_ref01_TakeUint : Type := (Int × ByteArray × Bool × Unit) × Unit
def ltmps_ref01_TakeUint_4 : SkL := (.cons (.leaf .str) (.cons (.const .dead) (.cons (.const .dead) (.cons (.const .dead) (.cons (.const .dead) (.cons (.leaf (.int .u64)) (.cons (.leaf (.int .u64)) (.cons (.leaf (.int .i64)) (.cons (.const .dead) (.cons (.const .dead) (.cons (.const .dead) (.cons (.const .dead) (.cons (.const .dead) (.cons (.const .dead) (.cons (.const .dead) (.cons (.const .dead) (.cons (.const .dead) (.cons (.const .dead) (.cons (.const .dead) (.cons (.const .dead) (.cons (.const .dead) (.cons (.const .dead) (.cons (.const .dead) (.cons (.const .dead) (.cons (.const .dead) (.cons (.const .dead) (.cons (.const .dead) (.cons (.const .dead) (.cons (.const .dead) (.cons (.const .dead) (.cons (.const .dead) (.cons (.const .dead) (.cons (.const .dead) (.cons (.const .dead) (.cons (.const .dead) (.cons (.const .dead) (.cons (.const .dead) (.cons (.const .dead) (.cons (.const .dead) (.cons (.const .dead) (.cons (.const .dead) (.cons (.const .dead) (.cons (.const .dead) (.cons (.const .dead) (.cons (.const .dead) .nil)))))))))))))))))))))))))))))))))))))))))))))
def lmem_ref01_TakeUint_4 : MSk := []
def louts_ref01_TakeUint_4 : List OutL := [⟨(.exit 0), (.cons (.const .dead) (.cons (.const .dead) (.cons (.const .dead) (.cons (.const .dead) (.cons (.const .dead) (.cons (.const .dead) (.cons (.const .dead) (.cons (.const .dead) (.cons (.const .dead) (.cons (.const .dead) (.cons (.const .dead) (.cons (.const .dead) (.cons (.const .dead) (.cons (.const .dead) (.cons (.const .dead) (.cons (.const .dead) (.cons (.const .dead) (.cons (.const .dead) (.cons (.const .dead) (.cons (.const .dead) (.cons (.const .dead) (.cons (.const .dead) (.cons (.const .dead) (.cons (.const .dead) (.cons (.const .dead) (.cons (.const .dead) (.cons (.const .dead) (.cons (.const .dead) (.cons (.const .dead) (.cons (.const .dead) (.cons (.const .dead) (.cons (.const .dead) (.cons (.const .dead) (.cons (.const .dead) (.cons (.const .dead) (.cons (.const .dead) (.cons (.const .dead) (.cons (.const .dead) (.cons (.const .dead) (.cons (.const .dead) (.cons (.const .dead) (.cons (.const .dead) (.cons (.const .dead) (.cons (.const .dead) (.cons (.const .dead) .nil))))))))))))))))))))))))))))))))))))))))))))), []⟩, ⟨.ret, (.cons (.const .dead) (.cons (.const .dead) (.cons (.leaf (.int .u64)) (.cons (.leaf .str) (.cons (.leaf .bool) (.cons (.const .dead) (.cons (.const .dead) (.cons (.const .dead) (.cons (.const .dead) (.cons (.const .dead) (.cons (.const .dead) (.cons (.const .dead) (.cons (.const .dead) (.cons (.const .dead) (.cons (.const .dead) (.cons (.const .dead) (.cons (.const .dead) (.cons (.const .dead) (.cons (.const .dead) (.cons (.const .dead) (.cons (.const .dead) (.cons (.const .dead) (.cons (.const .dead) (.cons (.const .dead) (.cons (.const .dead) (.cons (.const .dead) (.cons (.const .dead) (.cons (.const .dead) (.cons (.const .dead) (.cons (.const .dead) (.cons (.const .dead) (.cons (.const .dead) (.cons (.const .dead) (.cons (.const .dead) (.cons (.const .dead) (.cons (.const .dead) (.cons (.const .dead) (.cons (.const .dead) (.cons (.const .dead) (.cons (.const .dead) (.cons (.const .dead) (.cons (.const .dead) (.cons (.const .dead) (.cons (.const .dead) (.cons (.const .dead) .nil))))))))))))))))))))))))))))))))))))))))))))), []⟩]
abbrev LT_ref01_TakeUint_4 : Type := (ByteArray × Int × Int × Int × Unit)
abbrev LM_ref01_TakeUint_4 : Type := Unit
abbrev LO_ref01_TakeUint_4 : Type := (Unit × Unit) ⊕ ((Int × ByteArray × Bool × Unit) × Unit)
def ltree_ref01_TakeUint_4 (F_ref01_PutUint : A_ref01_PutUint → M_ref01_PutUint → Option O_ref01_PutUint) {α : Type} (x1 : ByteArray) (x2 : Int) (x3 : Int) (x4 : Int) (kn : LT_ref01_TakeUint_4 → LM_ref01_TakeUint_4 → Option α) (kr : LO_ref01_TakeUint_4 → Option α) : Option α :=
  cond (decide (x4 < (↑x1.size : Int)))
  (cond (decide (x4 < 10))
   (cond (decide (0 ≤ x4))
    (cond (decide (x4 < (↑x1.size : Int)))
     (cond (decide (IntKind.u64.wrap (Go.Proofs.Ytlfedmjjjbhnpaa.S2.strAt x1 x4) < 128))
      ((F_ref01_PutUint   (IntKind.u64.wrap       (x2 + IntKind.u64.wrap (x3 * (IntKind.u64.wrap (Go.Proofs.Ytlfedmjjjbhnpaa.S2.strAt x1 x4)).tmod 128)),     ())   ()).bind fun r1 =>
       cond (decide (0 ≤ IntKind.i64.wrap (x4 + 1)))
       (cond (decide (IntKind.i64.wrap (x4 + 1) ≤ (↑x1.size : Int)))
        (cond (!r1.fst.toList == (x1.extract 0 (IntKind.i64.wrap (x4 + 1)).toNat).toList)
         (kr (.inl ((), ())))
         (cond (decide (0 ≤ IntKind.i64.wrap (x4 + 1)))
          (cond (decide (IntKind.i64.wrap (x4 + 1) ≤ (↑x1.size : Int)))
           (kr (.inr ((IntKind.u64.wrap   (x2 + IntKind.u64.wrap (x3 * (IntKind.u64.wrap (Go.Proofs.Ytlfedmjjjbhnpaa.S2.strAt x1 x4)).tmod 128)), (x1.extract (IntKind.i64.wrap (x4 + 1)).toNat x1.size, (true, ()))), ())))
           (none))
          (none)))
        (none))
       (none))
      (kn (x1, (IntKind.u64.wrap   (x2 + IntKind.u64.wrap (x3 * (IntKind.u64.wrap (Go.Proofs.Ytlfedmjjjbhnpaa.S2.strAt x1 x4)).tmod 128)), (IntKind.u64.wrap (x3 * 128), (IntKind.i64.wrap (x4 + 1), ())))) ()))
     (none))
    (none))
   (kr (.inl ((), ()))))
  (kr (.inl ((), ())))
noncomputable def L_ref01_TakeUint_4 : LT_ref01_TakeUint_4 → LM_ref01_TakeUint_4 → Option LO_ref01_TakeUint_4 := fun x y => runL (fun p => (fun (a : LT_ref01_TakeUint_4) (b : LM_ref01_TakeUint_4) => ltree_ref01_TakeUint_4 F_ref01_PutUint a.1 a.2.1 a.2.2.1 a.2.2.2.1 (fun a' b' => some (.inl (a', b'))) fun r => some (.inr r)) p.1 p.2) (x, y)
theorem nl_ref01_TakeUint_4 (F_ref01_PutUint : A_ref01_PutUint → M_ref01_PutUint → Option O_ref01_PutUint) (x1 : ByteArray) (x2 : Int) (x3 : Int) (x4 : Int) {α : Type} (kn : LT_ref01_TakeUint_4 → LM_ref01_TakeUint_4 → Option α) (kr : LO_ref01_TakeUint_4 → Option α) : ltree_ref01_TakeUint_4 F_ref01_PutUint x1 x2 x3 x4 kn kr = (ltree_ref01_TakeUint_4 F_ref01_PutUint x1 x2 x3 x4 (fun a b => some (.inl (a, b))) fun r => some (.inr r)).bind (Sum.elim (fun p : LT_ref01_TakeUint_4 × LM_ref01_TakeUint_4 => kn p.1 p.2) kr) := by simp only [ltree_ref01_TakeUint_4, bind_cond, bind_none', bind_some', bind_bind', bind_sum, Sum.elim_inl, Sum.elim_inr]
theorem Le_ref01_TakeUint_4 (x1 : ByteArray) (x2 : Int) (x3 : Int) (x4 : Int) : L_ref01_TakeUint_4 (x1, (x2, (x3, (x4, ())))) () = ltree_ref01_TakeUint_4 F_ref01_PutUint x1 x2 x3 x4 L_ref01_TakeUint_4 some := runL_tree (A := LT_ref01_TakeUint_4) (B := LM_ref01_TakeUint_4) (R := LO_ref01_TakeUint_4) (fun a b kn kr => ltree_ref01_TakeUint_4 F_ref01_PutUint a.1 a.2.1 a.2.2.1 a.2.2.2.1 kn kr) (fun a b kn kr => nl_ref01_TakeUint_4 F_ref01_PutUint a.1 a.2.1 a.2.2.1 a.2.2.2.1 kn kr) (x1, (x2, (x3, (x4, ())))) ()
def tree_ref01_TakeUint (L_ref01_TakeUint_4 : LT_ref01_TakeUint_4 → LM_ref01_TakeUint_4 → Option LO_ref01_TakeUint_4) {α : Type} (x1 : ByteArray) (K : O_ref01_TakeUint → Option α) : Option α :=
  (L_ref01_TakeUint_4 (x1, 0, 1, 0, ()) ()).bind fun r1 =>
  Sum.elim (fun u2 =>
   K ((0, (ByteArray.empty, (false, ()))), ()))
  (fun u2 =>
   K ((u2.fst.fst, (u2.fst.snd.fst, (u2.fst.snd.snd.fst, ()))), ())) (r1)
noncomputable def F_ref01_TakeUint : A_ref01_TakeUint → M_ref01_TakeUint → Option O_ref01_TakeUint := fun a b => tree_ref01_TakeUint L_ref01_TakeUint_4 a.1 some
theorem n_ref01_TakeUint (L_ref01_TakeUint_4 : LT_ref01_TakeUint_4 → LM_ref01_TakeUint_4 → Option LO_ref01_TakeUint_4) (x1 : ByteArray) {α : Type} (K : O_ref01_TakeUint → Option α) : tree_ref01_TakeUint L_ref01_TakeUint_4 x1 K = (tree_ref01_TakeUint L_ref01_TakeUint_4 x1 some).bind K := by simp only [tree_ref01_TakeUint, bind_cond, bind_none', bind_some', bind_bind', bind_sum]
theorem Fe_ref01_TakeUint (x1 : ByteArray) : F_ref01_TakeUint (x1, ()) () = tree_ref01_TakeUint L_ref01_TakeUint_4 x1 some := rfl

/-! countersign/countersignref01.TakeText -/
def args_ref01_TakeText : SkL := (.cons (.leaf .str) (.cons (.leaf (.int .i64)) .nil))
def mem_ref01_TakeText : MSk := []
def outs_ref01_TakeText : List OutC := [⟨(.tup (.cons (.leaf .str) (.cons (.leaf .str) (.cons (.leaf .bool) .nil)))), []⟩]
abbrev A_ref01_TakeText : Type := (ByteArray × Int × Unit)
abbrev M_ref01_TakeText : Type := Unit
abbrev O_ref01_TakeText : Type := (ByteArray × ByteArray × Bool × Unit) × Unit
def tree_ref01_TakeText (F_ref01_TakeUint : A_ref01_TakeUint → M_ref01_TakeUint → Option O_ref01_TakeUint) {α : Type} (x1 : ByteArray) (x2 : Int) (K : O_ref01_TakeText → Option α) : Option α :=
  (F_ref01_TakeUint (x1, ()) ()).bind fun r1 =>
  cond (!r1.fst.snd.snd.fst)
  (K ((ByteArray.empty, (ByteArray.empty, (false, ()))), ()))
  (cond (decide (x2 < 0))
   (K ((ByteArray.empty, (ByteArray.empty, (false, ()))), ()))
   (cond (decide (r1.fst.fst > IntKind.u64.wrap x2))
    (K ((ByteArray.empty, (ByteArray.empty, (false, ()))), ()))
    (cond (decide (r1.fst.fst > IntKind.u64.wrap (↑r1.fst.snd.fst.size : Int)))
     (K ((ByteArray.empty, (ByteArray.empty, (false, ()))), ()))
     (cond (decide (0 ≤ IntKind.i64.wrap r1.fst.fst))
      (cond (decide (IntKind.i64.wrap r1.fst.fst ≤ (↑r1.fst.snd.fst.size : Int)))
       (cond (decide (0 ≤ IntKind.i64.wrap r1.fst.fst))
        (cond (decide (IntKind.i64.wrap r1.fst.fst ≤ (↑r1.fst.snd.fst.size : Int)))
         (K ((r1.fst.snd.fst.extract 0 (IntKind.i64.wrap r1.fst.fst).toNat, (r1.fst.snd.fst.extract (IntKind.i64.wrap r1.fst.fst).toNat r1.fst.snd.fst.size, (true, ()))), ()))
         (none))
        (none))
       (none))
      (none)))))
noncomputable def F_ref01_TakeText : A_ref01_TakeText → M_ref01_TakeText → Option O_ref01_TakeText := fun a b => tree_ref01_TakeText F_ref01_TakeUint a.1 a.2.1 some
theorem n_ref01_TakeText (F_ref01_TakeUint : A_ref01_TakeUint → M_ref01_TakeUint → Option O_ref01_TakeUint) (x1 : ByteArray) (x2 : Int) {α : Type} (K : O_ref01_TakeText → Option α) : tree_ref01_TakeText F_ref01_TakeUint x1 x2 K = (tree_ref01_TakeText F_ref01_TakeUint x1 x2 some).bind K := by simp only [tree_ref01_TakeText, bind_cond, bind_none', bind_some', bind_bind', bind_sum]
theorem Fe_ref01_TakeText (x1 : ByteArray) (x2 : Int) : F_ref01_TakeText (x1, (x2, ())) () = tree_ref01_TakeText F_ref01_TakeUint x1 x2 some := rfl

/-! countersign/countersignref13.Numbers -/
def args_ref13_Numbers : SkL := (.cons (.leaf .str) (.cons (.leaf (.int .i64)) .nil))
def mem_ref13_Numbers : MSk := []
def outs_ref13_Numbers : List OutC := [⟨(.tup (.cons (.leaf (.slc 29 (.cons (.int .u64) .nil))) (.cons (.leaf .str) (.cons (.leaf .bool) .nil)))), []⟩]
abbrev A_ref13_Numbers : Type := (ByteArray × Int × Unit)
abbrev M_ref13_Numbers : Type := Unit
abbrev O_ref13_Numbers : Type := (List Int × ByteArray × Bool × Unit) × Unit
def ltmps_ref13_Numbers_2 : SkL := (.cons (.leaf .str) (.cons (.leaf (.int .i64)) (.cons (.const .dead) (.cons (.const .dead) (.cons (.const .dead) (.cons (.const .dead) (.cons (.const .dead) (.cons (.const (.slw 507)) (.cons (.const .dead) (.cons (.const .dead) (.cons (.const .dead) (.cons (.const .dead) (.cons (.const .dead) (.cons (.const .dead) (.cons (.const .dead) (.cons (.const .dead) (.cons (.const .dead) (.cons (.const .dead) (.cons (.const .dead) (.cons (.const .dead) (.cons (.const .dead) (.cons (.const .dead) (.cons (.const .dead) (.cons (.const .dead) (.cons (.const .dead) (.cons (.const .dead) (.cons (.const .dead) (.cons (.const .dead) (.cons (.const .dead) (.cons (.const .dead) (.cons (.const .dead) .nil)))))))))))))))))))))))))))))))
def lmem_ref13_Numbers_2 : MSk := [(507, .row 29 (.cons (.int .u64) .nil))]
def louts_ref13_Numbers_2 : List OutL := [⟨.ret, (.cons (.leaf .str) (.cons (.const .dead) (.cons (.const .dead) (.cons (.const .dead) (.cons (.const .nils) (.cons (.leaf .str) (.cons (.leaf .bool) (.cons (.const (.slw 507)) (.cons (.const .dead) (.cons (.const .dead) (.cons (.const .dead) (.cons (.const .dead) (.cons (.const .dead) (.cons (.const .dead) (.cons (.const .dead) (.cons (.const .dead) (.cons (.const .dead) (.cons (.const .dead) (.cons (.const .dead) (.cons (.const .dead) (.cons (.const .dead) (.cons (.const .dead) (.cons (.const .dead) (.cons (.const .dead) (.cons (.const .dead) (.cons (.const .dead) (.cons (.const .dead) (.cons (.const .dead) (.cons (.const .dead) (.cons (.const .dead) (.cons (.const .dead) .nil))))))))))))))))))))))))))))))), [(507, .row 29 (.cons (.int .u64) .nil))]⟩, ⟨(.exit 0), (.cons (.leaf .str) (.cons (.const .dead) (.cons (.const .dead) (.cons (.const .dead) (.cons (.const .dead) (.cons (.const .dead) (.cons (.const .dead) (.cons (.const (.slw 507)) (.cons (.const .dead) (.cons (.const .dead) (.cons (.const .dead) (.cons (.const .dead) (.cons (.const .dead) (.cons (.const .dead) (.cons (.const .dead) (.cons (.const .dead) (.cons (.const .dead) (.cons (.const .dead) (.cons (.const .dead) (.cons (.const .dead) (.cons (.const .dead) (.cons (.const .dead) (.cons (.const .dead) (.cons (.const .dead) (.cons (.const .dead) (.cons (.const .dead) (.cons (.const .dead) (.cons (.const .dead) (.cons (.const .dead) (.cons (.const .dead) (.cons (.const .dead) .nil))))))))))))))))))))))))))))))), [(507, .row 29 (.cons (.int .u64) .nil))]⟩]
abbrev LT_ref13_Numbers_2 : Type := (ByteArray × Int × Unit)
abbrev LM_ref13_Numbers_2 : Type := (List Int × Unit)
abbrev LO_ref13_Numbers_2 : Type := ((ByteArray × ByteArray × Bool × Unit) × (List Int × Unit)) ⊕ ((ByteArray × Unit) × (List Int × Unit))
def ltree_ref13_Numbers_2 (F_ref01_TakeUint : A_ref01_TakeUint → M_ref01_TakeUint → Option O_ref01_TakeUint) {α : Type} (x1 : ByteArray) (x2 : Int) (x3 : List Int) (kn : LT_ref13_Numbers_2 → LM_ref13_Numbers_2 → Option α) (kr : LO_ref13_Numbers_2 → Option α) : Option α :=
  cond (decide ((↑x3.length : Int) < x2))
  ((F_ref01_TakeUint (x1, ()) ()).bind fun r1 =>
   cond (!r1.fst.snd.snd.fst)
   (kr (.inl ((x1, (ByteArray.empty, (false, ()))), (x3, ()))))
   (cond (decide ((x3.length + 1) * 8 ≤ 140737488355328))
    (kn (r1.fst.snd.fst, (x2, ())) (x3 ++ ([] ++ [r1.fst.fst]), ()))
    (none)))
  (kr (.inr ((x1, ()), (x3, ()))))
noncomputable def L_ref13_Numbers_2 : LT_ref13_Numbers_2 → LM_ref13_Numbers_2 → Option LO_ref13_Numbers_2 := fun x y => runL (fun p => (fun (a : LT_ref13_Numbers_2) (b : LM_ref13_Numbers_2) => ltree_ref13_Numbers_2 F_ref01_TakeUint a.1 a.2.1 b.1 (fun a' b' => some (.inl (a', b'))) fun r => some (.inr r)) p.1 p.2) (x, y)
theorem nl_ref13_Numbers_2 (F_ref01_TakeUint : A_ref01_TakeUint → M_ref01_TakeUint → Option O_ref01_TakeUint) (x1 : ByteArray) (x2 : Int) (x3 : List Int) {α : Type} (kn : LT_ref13_Numbers_2 → LM_ref13_Numbers_2 → Option α) (kr : LO_ref13_Numbers_2 → Option α) : ltree_ref13_Numbers_2 F_ref01_TakeUint x1 x2 x3 kn kr = (ltree_ref13_Numbers_2 F_ref01_TakeUint x1 x2 x3 (fun a b => some (.inl (a, b))) fun r => some (.inr r)).bind (Sum.elim (fun p : LT_ref13_Numbers_2 × LM_ref13_Numbers_2 => kn p.1 p.2) kr) := by simp only [ltree_ref13_Numbers_2, bind_cond, bind_none', bind_some', bind_bind', bind_sum, Sum.elim_inl, Sum.elim_inr]
theorem Le_ref13_Numbers_2 (x1 : ByteArray) (x2 : Int) (x3 : List Int) : L_ref13_Numbers_2 (x1, (x2, ())) (x3, ()) = ltree_ref13_Numbers_2 F_ref01_TakeUint x1 x2 x3 L_ref13_Numbers_2 some := runL_tree (A := LT_ref13_Numbers_2) (B := LM_ref13_Numbers_2) (R := LO_ref13_Numbers_2) (fun a b kn kr => ltree_ref13_Numbers_2 F_ref01_TakeUint a.1 a.2.1 b.1 kn kr) (fun a b kn kr => nl_ref13_Numbers_2 F_ref01_TakeUint a.1 a.2.1 b.1 kn kr) (x1, (x2, ())) (x3, ())
def tree_ref13_Numbers (L_ref13_Numbers_2 : LT_ref13_Numbers_2 → LM_ref13_Numbers_2 → Option LO_ref13_Numbers_2) {α : Type} (x1 : ByteArray) (x2 : Int) (K : O_ref13_Numbers → Option α) : Option α :=
  (L_ref13_Numbers_2 (x1, x2, ()) ([], ())).bind fun r1 =>
  Sum.elim (fun u2 =>
   K (([], (u2.fst.snd.fst, (u2.fst.snd.snd.fst, ()))), ()))
  (fun u2 =>
   K ((u2.snd.fst, (u2.fst.fst, (true, ()))), ())) (r1)
noncomputable def F_ref13_Numbers : A_ref13_Numbers → M_ref13_Numbers → Option O_ref13_Numbers := fun a b => tree_ref13_Numbers L_ref13_Numbers_2 a.1 a.2.1 some
theorem n_ref13_Numbers (L_ref13_Numbers_2 : LT_ref13_Numbers_2 → LM_ref13_Numbers_2 → Option LO_ref13_Numbers_2) (x1 : ByteArray) (x2 : Int) {α : Type} (K : O_ref13_Numbers → Option α) : tree_ref13_Numbers L_ref13_Numbers_2 x1 x2 K = (tree_ref13_Numbers L_ref13_Numbers_2 x1 x2 some).bind K := by simp only [tree_ref13_Numbers, bind_cond, bind_none', bind_some', bind_bind', bind_sum]
theorem Fe_ref13_Numbers (x1 : ByteArray) (x2 : Int) : F_ref13_Numbers (x1, (x2, ())) () = tree_ref13_Numbers L_ref13_Numbers_2 x1 x2 some := rfl

end Go.Proofs.Ytlfedmjjjbhnpaa.S2
