/- Plain forms of the program's functions, by program. -/
import Derived.Test.YtlfedmjjjbhnpaaGrdisk
set_option maxRecDepth 100000
set_option maxHeartbeats 0
set_option linter.unusedVariables false
set_option linter.unusedSimpArgs false
namespace Go.Proofs.Ytlfedmjjjbhnpaa.S2
open Go
/-! countersign/countersignref09.Eight -/
def args_ref09_Eight : SkL := (.cons (.leaf (.int .u64)) .nil)
def mem_ref09_Eight : MSk := []
def outs_ref09_Eight : List OutC := [⟨(.leaf .str), []⟩]
abbrev A_ref09_Eight : Type := (Int × Unit)
abbrev M_ref09_Eight : Type := Unit
abbrev O_ref09_Eight : Type := ByteArray × Unit
def ltmps_ref09_Eight_3 : SkL := (.cons (.leaf (.int .u64)) (.cons (.const .dead) (.cons (.const .dead) (.cons (.const (.slw 1160)) (.cons (.leaf (.int .i64)) (.cons (.const .dead) (.cons (.const .dead) (.cons (.const .dead) (.cons (.const .dead) (.cons (.const .dead) (.cons (.const .dead) (.cons (.const .dead) (.cons (.const .dead) (.cons (.const .dead) (.cons (.const .dead) (.cons (.const .dead) (.cons (.const .dead) (.cons (.const .dead) (.cons (.const .dead) (.cons (.const .dead) .nil))))))))))))))))))))
def lmem_ref09_Eight_3 : MSk := [(1160, .row 5 (.cons (.int .u8) .nil))]
def louts_ref09_Eight_3 : List OutL := [⟨(.exit 0), (.cons (.const .dead) (.cons (.const .dead) (.cons (.const .dead) (.cons (.const (.slw 1160)) (.cons (.const .dead) (.cons (.const .dead) (.cons (.const .dead) (.cons (.const .dead) (.cons (.const .dead) (.cons (.const .dead) (.cons (.const .dead) (.cons (.const .dead) (.cons (.const .dead) (.cons (.const .dead) (.cons (.const .dead) (.cons (.const .dead) (.cons (.const .dead) (.cons (.const .dead) (.cons (.const .dead) (.cons (.const .dead) .nil)))))))))))))))))))), [(1160, .row 5 (.cons (.int .u8) .nil))]⟩]
abbrev LT_ref09_Eight_3 : Type := (Int × Int × Unit)
abbrev LM_ref09_Eight_3 : Type := (List Int × Unit)
abbrev LO_ref09_Eight_3 : Type := Unit × (List Int × Unit)
def ltree_ref09_Eight_3 {α : Type} (x1 : Int) (x2 : Int) (x3 : List Int) (kn : LT_ref09_Eight_3 → LM_ref09_Eight_3 → Option α) (kr : LO_ref09_Eight_3 → Option α) : Option α :=
  cond (decide (x2 ≥ 0))
  (cond (decide (0 ≤ x2))
   (cond (decide (x2 < (↑x3.length : Int)))
    (kn (IntKind.u64.wrap (x1.tdiv 256), (IntKind.i64.wrap (x2 - 1), ())) (x3.set (0 + x2.toNat) (IntKind.u8.wrap (x1.tmod 256)), ()))
    (none))
   (none))
  (kr ((), (x3, ())))
noncomputable def L_ref09_Eight_3 : LT_ref09_Eight_3 → LM_ref09_Eight_3 → Option LO_ref09_Eight_3 := fun x y => runL (fun p => (fun (a : LT_ref09_Eight_3) (b : LM_ref09_Eight_3) => ltree_ref09_Eight_3 a.1 a.2.1 b.1 (fun a' b' => some (.inl (a', b'))) fun r => some (.inr r)) p.1 p.2) (x, y)
theorem nl_ref09_Eight_3 (x1 : Int) (x2 : Int) (x3 : List Int) {α : Type} (kn : LT_ref09_Eight_3 → LM_ref09_Eight_3 → Option α) (kr : LO_ref09_Eight_3 → Option α) : ltree_ref09_Eight_3 x1 x2 x3 kn kr = (ltree_ref09_Eight_3 x1 x2 x3 (fun a b => some (.inl (a, b))) fun r => some (.inr r)).bind (Sum.elim (fun p : LT_ref09_Eight_3 × LM_ref09_Eight_3 => kn p.1 p.2) kr) := by simp only [ltree_ref09_Eight_3, bind_cond, bind_none', bind_some', bind_bind', bind_sum, Sum.elim_inl, Sum.elim_inr]
theorem Le_ref09_Eight_3 (x1 : Int) (x2 : Int) (x3 : List Int) : L_ref09_Eight_3 (x1, (x2, ())) (x3, ()) = ltree_ref09_Eight_3 x1 x2 x3 L_ref09_Eight_3 some := runL_tree (A := LT_ref09_Eight_3) (B := LM_ref09_Eight_3) (R := LO_ref09_Eight_3) (fun a b kn kr => ltree_ref09_Eight_3 a.1 a.2.1 b.1 kn kr) (fun a b kn kr => nl_ref09_Eight_3 a.1 a.2.1 b.1 kn kr) (x1, (x2, ())) (x3, ())
def tree_ref09_Eight (L_ref09_Eight_3 : LT_ref09_Eight_3 → LM_ref09_Eight_3 → Option LO_ref09_Eight_3) {α : Type} (x1 : Int) (K : O_ref09_Eight → Option α) : Option α :=
  (L_ref09_Eight_3 (x1, 7, ()) (List.replicate 8 0, ())).bind fun r1 =>
  K (Go.strOfNums r1.snd.fst, ())
noncomputable def F_ref09_Eight : A_ref09_Eight → M_ref09_Eight → Option O_ref09_Eight := fun a b => tree_ref09_Eight L_ref09_Eight_3 a.1 some
theorem n_ref09_Eight (L_ref09_Eight_3 : LT_ref09_Eight_3 → LM_ref09_Eight_3 → Option LO_ref09_Eight_3) (x1 : Int) {α : Type} (K : O_ref09_Eight → Option α) : tree_ref09_Eight L_ref09_Eight_3 x1 K = (tree_ref09_Eight L_ref09_Eight_3 x1 some).bind K := by simp only [tree_ref09_Eight, bind_cond, bind_none', bind_some', bind_bind', bind_sum]
theorem Fe_ref09_Eight (x1 : Int) : F_ref09_Eight (x1, ()) () = tree_ref09_Eight L_ref09_Eight_3 x1 some := rfl

/-! countersign/countersignref09.Frame -/
def args_ref09_Frame : SkL := (.cons (.leaf (.int .u64)) (.cons (.leaf .str) (.cons (.leaf (.int .i64)) .nil)))
def mem_ref09_Frame : MSk := []
def outs_ref09_Frame : List OutC := [⟨(.tup (.cons (.leaf .str) (.cons (.leaf .bool) .nil))), []⟩]
abbrev A_ref09_Frame : Type := (Int × ByteArray × Int × Unit)
abbrev M_ref09_Frame : Type := Unit
abbrev O_ref09_Frame : Type := (ByteArray × Bool × Unit) × Unit
def tree_ref09_Frame (F_ref09_Eight : A_ref09_Eight → M_ref09_Eight → Option O_ref09_Eight) (F_ref08_Zeros : A_ref08_Zeros → M_ref08_Zeros → Option O_ref08_Zeros) {α : Type} (x1 : Int) (x2 : ByteArray) (x3 : Int) (K : O_ref09_Frame → Option α) : Option α :=
  cond (decide (x3 < 32))
  (K ((ByteArray.empty, (false, ())), ()))
  (cond (decide (x3 > 512))
   (K ((ByteArray.empty, (false, ())), ()))
   (cond (x1 == 0)
    (K ((ByteArray.empty, (false, ())), ()))
    (cond (decide ((↑x2.size : Int) > IntKind.i64.wrap (x3 - 18)))
     (K ((ByteArray.empty, (false, ())), ()))
     ((F_ref09_Eight (x1, ()) ()).bind fun r1 =>
      cond (decide   (r1.fst.size +       (Go.strOfNums           ([] ++ [IntKind.u8.wrap (IntKind.i64.wrap ((↑x2.size : Int).tdiv 256))] ++             [IntKind.u8.wrap ((↑x2.size : Int).tmod 256)])).size ≤     9223372036854775807))
      (cond (decide   ((r1.fst ++           Go.strOfNums             ([] ++ [IntKind.u8.wrap (IntKind.i64.wrap ((↑x2.size : Int).tdiv 256))] ++               [IntKind.u8.wrap ((↑x2.size : Int).tmod 256)])).size +       x2.size ≤     9223372036854775807))
       ((F_ref08_Zeros (IntKind.i64.wrap (IntKind.i64.wrap (x3 - 18) - (↑x2.size : Int)), ()) ()).bind fun r2 =>
        cond (decide   ((r1.fst ++             Go.strOfNums               ([] ++ [IntKind.u8.wrap (IntKind.i64.wrap ((↑x2.size : Int).tdiv 256))] ++                 [IntKind.u8.wrap ((↑x2.size : Int).tmod 256)]) ++           x2).size +       r2.fst.size ≤     9223372036854775807))
        ((F_ref09_Eight (x1, ()) ()).bind fun r3 =>
         cond (decide   ((r1.fst ++               Go.strOfNums                 ([] ++ [IntKind.u8.wrap (IntKind.i64.wrap ((↑x2.size : Int).tdiv 256))] ++                   [IntKind.u8.wrap ((↑x2.size : Int).tmod 256)]) ++             x2 ++           r2.fst).size +       r3.fst.size ≤     9223372036854775807))
         (K ((r1.fst ++         Go.strOfNums           ([] ++ [IntKind.u8.wrap (IntKind.i64.wrap ((↑x2.size : Int).tdiv 256))] ++             [IntKind.u8.wrap ((↑x2.size : Int).tmod 256)]) ++       x2 ++     r2.fst ++   r3.fst, (true, ())), ()))
         (none))
        (none))
       (none))
      (none)))))
noncomputable def F_ref09_Frame : A_ref09_Frame → M_ref09_Frame → Option O_ref09_Frame := fun a b => tree_ref09_Frame F_ref09_Eight F_ref08_Zeros a.1 a.2.1 a.2.2.1 some
theorem n_ref09_Frame (F_ref09_Eight : A_ref09_Eight → M_ref09_Eight → Option O_ref09_Eight) (F_ref08_Zeros : A_ref08_Zeros → M_ref08_Zeros → Option O_ref08_Zeros) (x1 : Int) (x2 : ByteArray) (x3 : Int) {α : Type} (K : O_ref09_Frame → Option α) : tree_ref09_Frame F_ref09_Eight F_ref08_Zeros x1 x2 x3 K = (tree_ref09_Frame F_ref09_Eight F_ref08_Zeros x1 x2 x3 some).bind K := by simp only [tree_ref09_Frame, bind_cond, bind_none', bind_some', bind_bind', bind_sum]
theorem Fe_ref09_Frame (x1 : Int) (x2 : ByteArray) (x3 : Int) : F_ref09_Frame (x1, (x2, (x3, ()))) () = tree_ref09_Frame F_ref09_Eight F_ref08_Zeros x1 x2 x3 some := rfl

/-! countersign/countersignref09.Unframe -/
def args_ref09_Unframe : SkL := (.cons (.leaf .str) .nil)
def mem_ref09_Unframe : MSk := []
def outs_ref09_Unframe : List OutC := [⟨(.tup (.cons (.leaf (.int .u64)) (.cons (.leaf .str) (.cons (.leaf .bool) .nil)))), []⟩]
abbrev A_ref09_Unframe : Type := (ByteArray × Unit)
abbrev M_ref09_Unframe : Type := Unit
abbrev O_ref09_Unframe : Type := (Int × ByteArray × Bool × Unit) × Unit
def ltmps_ref09_Unframe_5 : SkL := (.cons (.leaf .str) (.cons (.const .dead) (.cons (.const .dead) (.cons (.const .dead) (.cons (.const .dead) (.cons (.leaf (.int .u64)) (.cons (.leaf (.int .i64)) (.cons (.const .dead) (.cons (.const .dead) (.cons (.const .dead) (.cons (.const .dead) (.cons (.const .dead) (.cons (.const .dead) (.cons (.const .dead) (.cons (.const .dead) (.cons (.const .dead) (.cons (.const .dead) (.cons (.const .dead) (.cons (.const .dead) (.cons (.const .dead) (.cons (.const .dead) (.cons (.const .dead) (.cons (.const .dead) (.cons (.const .dead) (.cons (.const .dead) (.cons (.const .dead) (.cons (.const .dead) (.cons (.const .dead) (.cons (.const .dead) (.cons (.const .dead) (.cons (.const .dead) (.cons (.const .dead) (.cons (.const .dead) (.cons (.const .dead) (.cons (.const .dead) (.cons (.const .dead) (.cons (.const .dead) (.cons (.const .dead) (.cons (.const .dead) (.cons (.const .dead) (.cons (.const .dead) (.cons (.const .dead) (.cons (.const .dead) (.cons (.const .dead) (.cons (.const .dead) (.cons (.const .dead) (.cons (.const .dead) (.cons (.const .dead) (.cons (.const .dead) (.cons (.const .dead) (.cons (.const .dead) (.cons (.const .dead) (.cons (.const .dead) (.cons (.const .dead) (.cons (.const .dead) (.cons (.const .dead) (.cons (.const .dead) (.cons (.const .dead) (.cons (.const .dead) (.cons (.const .dead) (.cons (.const .dead) .nil)))))))))))))))))))))))))))))))))))))))))))))))))))))))))))))
def lmem_ref09_Unframe_5 : MSk := []
def louts_ref09_Unframe_5 : List OutL := [⟨(.exit 0), (.cons (.leaf .str) (.cons (.const .dead) (.cons (.const .dead) (.cons (.const .dead) (.cons (.const .dead) (.cons (.leaf (.int .u64)) (.cons (.const .dead) (.cons (.const .dead) (.cons (.const .dead) (.cons (.const .dead) (.cons (.const .dead) (.cons (.const .dead) (.cons (.const .dead) (.cons (.const .dead) (.cons (.const .dead) (.cons (.const .dead) (.cons (.const .dead) (.cons (.const .dead) (.cons (.const .dead) (.cons (.const .dead) (.cons (.const .dead) (.cons (.const .dead) (.cons (.const .dead) (.cons (.const .dead) (.cons (.const .dead) (.cons (.const .dead) (.cons (.const .dead) (.cons (.const .dead) (.cons (.const .dead) (.cons (.const .dead) (.cons (.const .dead) (.cons (.const .dead) (.cons (.const .dead) (.cons (.const .dead) (.cons (.const .dead) (.cons (.const .dead) (.cons (.const .dead) (.cons (.const .dead) (.cons (.const .dead) (.cons (.const .dead) (.cons (.const .dead) (.cons (.const .dead) (.cons (.const .dead) (.cons (.const .dead) (.cons (.const .dead) (.cons (.const .dead) (.cons (.const .dead) (.cons (.const .dead) (.cons (.const .dead) (.cons (.const .dead) (.cons (.const .dead) (.cons (.const .dead) (.cons (.const .dead) (.cons (.const .dead) (.cons (.const .dead) (.cons (.const .dead) (.cons (.const .dead) (.cons (.const .dead) (.cons (.const .dead) (.cons (.const .dead) (.cons (.const .dead) .nil))))))))))))))))))))))))))))))))))))))))))))))))))))))))))))), []⟩]
abbrev LT_ref09_Unframe_5 : Type := (ByteArray × Int × Int × Unit)
abbrev LM_ref09_Unframe_5 : Type := Unit
abbrev LO_ref09_Unframe_5 : Type := (ByteArray × Int × Unit) × Unit
def ltree_ref09_Unframe_5 {α : Type} (x1 : ByteArray) (x2 : Int) (x3 : Int) (kn : LT_ref09_Unframe_5 → LM_ref09_Unframe_5 → Option α) (kr : LO_ref09_Unframe_5 → Option α) : Option α :=
  cond (decide (x3 < 8))
  (cond (decide (0 ≤ x3))
   (cond (decide (x3 < (↑x1.size : Int)))
    (kn (x1, (IntKind.u64.wrap (IntKind.u64.wrap (256 * x2) + IntKind.u64.wrap (Go.Proofs.Ytlfedmjjjbhnpaa.S2.strAt x1 x3)), (IntKind.i64.wrap (x3 + 1), ()))) ())
    (none))
   (none))
  (kr ((x1, (x2, ())), ()))
noncomputable def L_ref09_Unframe_5 : LT_ref09_Unframe_5 → LM_ref09_Unframe_5 → Option LO_ref09_Unframe_5 := fun x y => runL (fun p => (fun (a : LT_ref09_Unframe_5) (b : LM_ref09_Unframe_5) => ltree_ref09_Unframe_5 a.1 a.2.1 a.2.2.1 (fun a' b' => some (.inl (a', b'))) fun r => some (.inr r)) p.1 p.2) (x, y)
theorem nl_ref09_Unframe_5 (x1 : ByteArray) (x2 : Int) (x3 : Int) {α : Type} (kn : LT_ref09_Unframe_5 → LM_ref09_Unframe_5 → Option α) (kr : LO_ref09_Unframe_5 → Option α) : ltree_ref09_Unframe_5 x1 x2 x3 kn kr = (ltree_ref09_Unframe_5 x1 x2 x3 (fun a b => some (.inl (a, b))) fun r => some (.inr r)).bind (Sum.elim (fun p : LT_ref09_Unframe_5 × LM_ref09_Unframe_5 => kn p.1 p.2) kr) := by simp only [ltree_ref09_Unframe_5, bind_cond, bind_none', bind_some', bind_bind', bind_sum, Sum.elim_inl, Sum.elim_inr]
theorem Le_ref09_Unframe_5 (x1 : ByteArray) (x2 : Int) (x3 : Int) : L_ref09_Unframe_5 (x1, (x2, (x3, ()))) () = ltree_ref09_Unframe_5 x1 x2 x3 L_ref09_Unframe_5 some := runL_tree (A := LT_ref09_Unframe_5) (B := LM_ref09_Unframe_5) (R := LO_ref09_Unframe_5) (fun a b kn kr => ltree_ref09_Unframe_5 a.1 a.2.1 a.2.2.1 kn kr) (fun a b kn kr => nl_ref09_Unframe_5 a.1 a.2.1 a.2.2.1 kn kr) (x1, (x2, (x3, ()))) ()
def tree_ref09_Unframe (F_ref08_Zeros : A_ref08_Zeros → M_ref08_Zeros → Option O_ref08_Zeros) (L_ref09_Unframe_5 : LT_ref09_Unframe_5 → LM_ref09_Unframe_5 → Option LO_ref09_Unframe_5) {α : Type} (x1 : ByteArray) (K : O_ref09_Unframe → Option α) : Option α :=
  cond (decide ((↑x1.size : Int) < 32))
  (K ((0, (ByteArray.empty, (false, ()))), ()))
  (cond (decide ((↑x1.size : Int) > 512))
   (K ((0, (ByteArray.empty, (false, ()))), ()))
   (cond (decide (8 ≤ (↑x1.size : Int)))
    (cond (decide (0 ≤ IntKind.i64.wrap ((↑x1.size : Int) - 8)))
     (cond (decide (IntKind.i64.wrap ((↑x1.size : Int) - 8) ≤ (↑x1.size : Int)))
      (cond (!(x1.extract 0 8).toList == (x1.extract (IntKind.i64.wrap ((↑x1.size : Int) - 8)).toNat x1.size).toList)
       (K ((0, (ByteArray.empty, (false, ()))), ()))
       (cond (decide (8 ≤ (↑x1.size : Int)))
        ((F_ref08_Zeros (8, ()) ()).bind fun r1 =>
         cond ((x1.extract 0 8).toList == r1.fst.toList)
         (K ((0, (ByteArray.empty, (false, ()))), ()))
         ((L_ref09_Unframe_5 (x1, 0, 0, ()) ()).bind fun r2 =>
          cond (decide (8 < (↑r2.fst.fst.size : Int)))
          (cond (decide (9 < (↑r2.fst.fst.size : Int)))
           (cond (decide   (IntKind.i64.wrap       (IntKind.i64.wrap (256 * IntKind.i64.wrap (Go.Proofs.Ytlfedmjjjbhnpaa.S2.strAt r2.fst.fst 8)) +         IntKind.i64.wrap (Go.Proofs.Ytlfedmjjjbhnpaa.S2.strAt r2.fst.fst 9)) >     IntKind.i64.wrap ((↑r2.fst.fst.size : Int) - 18)))
            (K ((0, (ByteArray.empty, (false, ()))), ()))
            (cond (decide   (10 ≤     IntKind.i64.wrap       (10 +         IntKind.i64.wrap           (IntKind.i64.wrap (256 * IntKind.i64.wrap (Go.Proofs.Ytlfedmjjjbhnpaa.S2.strAt r2.fst.fst 8)) +             IntKind.i64.wrap (Go.Proofs.Ytlfedmjjjbhnpaa.S2.strAt r2.fst.fst 9)))))
             (cond (decide   (IntKind.i64.wrap       (10 +         IntKind.i64.wrap           (IntKind.i64.wrap (256 * IntKind.i64.wrap (Go.Proofs.Ytlfedmjjjbhnpaa.S2.strAt r2.fst.fst 8)) +             IntKind.i64.wrap (Go.Proofs.Ytlfedmjjjbhnpaa.S2.strAt r2.fst.fst 9))) ≤     (↑r2.fst.fst.size : Int)))
              (K ((r2.fst.snd.fst, (r2.fst.fst.extract 10   (IntKind.i64.wrap       (10 +         IntKind.i64.wrap           (IntKind.i64.wrap (256 * IntKind.i64.wrap (Go.Proofs.Ytlfedmjjjbhnpaa.S2.strAt r2.fst.fst 8)) +             IntKind.i64.wrap (Go.Proofs.Ytlfedmjjjbhnpaa.S2.strAt r2.fst.fst 9)))).toNat, (true, ()))), ()))
              (none))
             (none)))
           (none))
          (none)))
        (none)))
      (none))
     (none))
    (none)))
noncomputable def F_ref09_Unframe : A_ref09_Unframe → M_ref09_Unframe → Option O_ref09_Unframe := fun a b => tree_ref09_Unframe F_ref08_Zeros L_ref09_Unframe_5 a.1 some
theorem n_ref09_Unframe (F_ref08_Zeros : A_ref08_Zeros → M_ref08_Zeros → Option O_ref08_Zeros) (L_ref09_Unframe_5 : LT_ref09_Unframe_5 → LM_ref09_Unframe_5 → Option LO_ref09_Unframe_5) (x1 : ByteArray) {α : Type} (K : O_ref09_Unframe → Option α) : tree_ref09_Unframe F_ref08_Zeros L_ref09_Unframe_5 x1 K = (tree_ref09_Unframe F_ref08_Zeros L_ref09_Unframe_5 x1 some).bind K := by simp only [tree_ref09_Unframe, bind_cond, bind_none', bind_some', bind_bind', bind_sum]
theorem Fe_ref09_Unframe (x1 : ByteArray) : F_ref09_Unframe (x1, ()) () = tree_ref09_Unframe F_ref08_Zeros L_ref09_Unframe_5 x1 some := rfl

/-! countersign/countersignref09.Newest -/
def args_ref09_Newest : SkL := (.cons (.leaf .str) (.cons (.leaf .str) .nil))
def mem_ref09_Newest : MSk := []
def outs_ref09_Newest : List OutC := [⟨(.tup (.cons (.leaf (.int .i64)) (.cons (.leaf (.int .u64)) (.cons (.leaf .str) .nil)))), []⟩]
abbrev A_ref09_Newest : Type := (ByteArray × ByteArray × Unit)
abbrev M_ref09_Newest : Type := Unit
abbrev O_ref09_Newest : Type := (Int × Int × ByteArray × Unit) × Unit
def tree_ref09_Newest (F_ref09_Unframe : A_ref09_Unframe → M_ref09_Unframe → Option O_ref09_Unframe) {α : Type} (x1 : ByteArray) (x2 : ByteArray) (K : O_ref09_Newest → Option α) : Option α :=
  (F_ref09_Unframe (x1, ()) ()).bind fun r1 =>
  (F_ref09_Unframe (x2, ()) ()).bind fun r2 =>
  cond (r1.fst.snd.snd.fst)
  (cond (!r2.fst.snd.snd.fst)
   (K ((1, (r1.fst.fst, (r1.fst.snd.fst, ()))), ()))
   (cond (decide (r1.fst.fst ≥ r2.fst.fst))
    (K ((1, (r1.fst.fst, (r1.fst.snd.fst, ()))), ()))
    (cond (r2.fst.snd.snd.fst)
     (K ((2, (r2.fst.fst, (r2.fst.snd.fst, ()))), ()))
     (K ((0, (0, (ByteArray.empty, ()))), ())))))
  (cond (r2.fst.snd.snd.fst)
   (K ((2, (r2.fst.fst, (r2.fst.snd.fst, ()))), ()))
   (K ((0, (0, (ByteArray.empty, ()))), ())))
noncomputable def F_ref09_Newest : A_ref09_Newest → M_ref09_Newest → Option O_ref09_Newest := fun a b => tree_ref09_Newest F_ref09_Unframe a.1 a.2.1 some
theorem n_ref09_Newest (F_ref09_Unframe : A_ref09_Unframe → M_ref09_Unframe → Option O_ref09_Unframe) (x1 : ByteArray) (x2 : ByteArray) {α : Type} (K : O_ref09_Newest → Option α) : tree_ref09_Newest F_ref09_Unframe x1 x2 K = (tree_ref09_Newest F_ref09_Unframe x1 x2 some).bind K := by simp only [tree_ref09_Newest, bind_cond, bind_none', bind_some', bind_bind', bind_sum]
theorem Fe_ref09_Newest (x1 : ByteArray) (x2 : ByteArray) : F_ref09_Newest (x1, (x2, ())) () = tree_ref09_Newest F_ref09_Unframe x1 x2 some := rfl

/-! countersign/countersignref09.Load -/
def args_ref09_Load : SkL := (.cons (.const (.ptr 0 0 0)) (.cons (.leaf (.int .i64)) (.cons (.leaf (.int .i64)) .nil)))
def mem_ref09_Load : MSk := [(0, .cells (.cons (.leaf (.int .i64)) (.cons (.const (.slw 1)) (.cons (.const (.slw 2)) .nil)))), (1, .row 9 (.cons .str .nil)), (2, .row 114 (.cons (.int .i64) (.cons (.int .i64) (.cons .str (.cons (.slc 3 (.cons (.int .i64) .nil)) .nil)))))]
def outs_ref09_Load : List OutC := [⟨(.tup (.cons (.leaf (.int .u64)) (.cons (.leaf .str) .nil))), []⟩]
abbrev A_ref09_Load : Type := (Int × Int × Unit)
abbrev M_ref09_Load : Type := ((Int × Unit) × List ByteArray × (List (Int × Int × ByteArray × List Int)) × Unit)
abbrev O_ref09_Load : Type := (Int × ByteArray × Unit) × Unit
def routs_ref09_Load : List OutC := [⟨(.tup (.cons (.leaf (.int .u64)) (.cons (.leaf .str) .nil))), [(0, .cells (.cons (.leaf (.int .i64)) (.cons (.const (.slw 1)) (.cons (.const (.slw 2)) .nil)))), (1, .row 9 (.cons .str .nil)), (2, .row 114 (.cons (.int .i64) (.cons (.int .i64) (.cons .str (.cons (.slc 3 (.cons (.int .i64) .nil)) .nil)))))]⟩]
abbrev RO_ref09_Load : Type := (Int × ByteArray × Unit) × ((Int × Unit) × List ByteArray × (List (Int × Int × ByteArray × List Int)) × Unit)
def tree_ref09_Load (F_ref08_Disk_Read : A_ref08_Disk_Read → M_ref08_Disk_Read → Option O_ref08_Disk_Read) (F_ref09_Newest : A_ref09_Newest → M_ref09_Newest → Option O_ref09_Newest) {α : Type} (x1 : Int) (x2 : Int) (x3 : Int) (x4 : List ByteArray) (x5 : List (Int × Int × ByteArray × List Int)) (K : RO_ref09_Load → Option α) : Option α :=
  (F_ref08_Disk_Read (x1, ()) ((x3, ()), x4, x5, ())).bind fun r1 =>
  (F_ref08_Disk_Read (x2, ()) ((x3, ()), x4, x5, ())).bind fun r2 =>
  (F_ref09_Newest (r1.fst.fst, r2.fst.fst, ()) ()).bind fun r3 =>
  K ((r3.fst.snd.fst, (r3.fst.snd.snd.fst, ())), ((x3, ()), (x4, (x5, ()))))
noncomputable def R_ref09_Load : A_ref09_Load → M_ref09_Load → Option RO_ref09_Load := fun a b => tree_ref09_Load F_ref08_Disk_Read F_ref09_Newest a.1 a.2.1 b.1.1 b.2.1 b.2.2.1 some
theorem reads_ref09_Load (a : A_ref09_Load) (b : M_ref09_Load) : Leaf (fun r : RO_ref09_Load => r.2 = b) (R_ref09_Load a b) := by
  show Leaf _ (tree_ref09_Load F_ref08_Disk_Read F_ref09_Newest a.1 a.2.1 b.1.1 b.2.1 b.2.2.1 some)
  unfold tree_ref09_Load
  repeat (first | (with_reducible refine leaf_bind fun _ => ?_) | (with_reducible apply leaf_cond) | (with_reducible refine leaf_sum (fun _ => ?_) (fun _ => ?_)) | (with_reducible exact leaf_none) | exact leaf_some rfl)
noncomputable def F_ref09_Load : A_ref09_Load → M_ref09_Load → Option O_ref09_Load := fun a b => (R_ref09_Load a b).map fun r => (r.1, ())
theorem n_ref09_Load (F_ref08_Disk_Read : A_ref08_Disk_Read → M_ref08_Disk_Read → Option O_ref08_Disk_Read) (F_ref09_Newest : A_ref09_Newest → M_ref09_Newest → Option O_ref09_Newest) (x1 : Int) (x2 : Int) (x3 : Int) (x4 : List ByteArray) (x5 : List (Int × Int × ByteArray × List Int)) {α : Type} (K : RO_ref09_Load → Option α) : tree_ref09_Load F_ref08_Disk_Read F_ref09_Newest x1 x2 x3 x4 x5 K = (tree_ref09_Load F_ref08_Disk_Read F_ref09_Newest x1 x2 x3 x4 x5 some).bind K := by simp only [tree_ref09_Load, bind_cond, bind_none', bind_some', bind_bind', bind_sum]
theorem Fe_ref09_Load (x1 : Int) (x2 : Int) (x3 : Int) (x4 : List ByteArray) (x5 : List (Int × Int × ByteArray × List Int)) : F_ref09_Load (x1, (x2, ())) ((x3, ()), (x4, (x5, ()))) = (tree_ref09_Load F_ref08_Disk_Read F_ref09_Newest x1 x2 x3 x4 x5 some).map fun r => (r.1, ()) := rfl

/-! countersign/countersignref09.Begin -/
def args_ref09_Begin : SkL := (.cons (.const (.ptr 0 0 0)) (.cons (.leaf (.int .i64)) (.cons (.leaf (.int .i64)) (.cons (.leaf .str) .nil))))
def mem_ref09_Begin : MSk := [(0, .cells (.cons (.leaf (.int .i64)) (.cons (.const (.slw 1)) (.cons (.const (.slw 2)) .nil)))), (1, .row 9 (.cons .str .nil)), (2, .row 114 (.cons (.int .i64) (.cons (.int .i64) (.cons .str (.cons (.slc 3 (.cons (.int .i64) .nil)) .nil)))))]
def outs_ref09_Begin : List OutC := [⟨(.leaf .bool), [(0, .cells (.cons (.leaf (.int .i64)) (.cons (.const (.slw 1)) (.cons (.const (.slw 3)) .nil)))), (1, .row 9 (.cons .str .nil)), (2, .gone), (3, .row 114 (.cons (.int .i64) (.cons (.int .i64) (.cons .str (.cons (.slc 3 (.cons (.int .i64) .nil)) .nil)))))]⟩]
abbrev A_ref09_Begin : Type := (Int × Int × ByteArray × Unit)
abbrev M_ref09_Begin : Type := ((Int × Unit) × List ByteArray × (List (Int × Int × ByteArray × List Int)) × Unit)
abbrev O_ref09_Begin : Type := Bool × ((Int × Unit) × List ByteArray × Unit × (List (Int × Int × ByteArray × List Int)) × Unit)
def tree_ref09_Begin (F_ref08_Disk_Read : A_ref08_Disk_Read → M_ref08_Disk_Read → Option O_ref08_Disk_Read) (F_ref09_Newest : A_ref09_Newest → M_ref09_Newest → Option O_ref09_Newest) (F_ref09_Frame : A_ref09_Frame → M_ref09_Frame → Option O_ref09_Frame) (F_ref08_Disk_Write : A_ref08_Disk_Write → M_ref08_Disk_Write → Option O_ref08_Disk_Write) {α : Type} (x1 : Int) (x2 : Int) (x3 : ByteArray) (x4 : Int) (x5 : List ByteArray) (x6 : List (Int × Int × ByteArray × List Int)) (K : O_ref09_Begin → Option α) : Option α :=
  (F_ref08_Disk_Read (x1, ()) ((x4, ()), x5, x6, ())).bind fun r1 =>
  (F_ref08_Disk_Read (x2, ()) ((x4, ()), x5, x6, ())).bind fun r2 =>
  cond (!r1.fst.snd.fst)
  (K (false, ((x4, ()), (x5, ((), (x6, ()))))))
  (cond (!r2.fst.snd.fst)
   (K (false, ((x4, ()), (x5, ((), (x6, ()))))))
   (cond (x1 == x2)
    (K (false, ((x4, ()), (x5, ((), (x6, ()))))))
    ((F_ref09_Newest (r1.fst.fst, r2.fst.fst, ()) ()).bind fun r3 =>
     (F_ref09_Frame (IntKind.u64.wrap (r3.fst.snd.fst + 1), x3, x4, ()) ()).bind fun r4 =>
     cond (!r4.fst.snd.fst)
     (K (false, ((x4, ()), (x5, ((), (x6, ()))))))
     (cond (r3.fst.fst == 1)
      ((F_ref08_Disk_Write (x2, r4.fst.fst, ()) ((x4, ()), x5, x6, ())).bind fun r5 =>
       K (r5.fst, ((r5.snd.fst.fst, ()), (r5.snd.snd.fst, ((), (r5.snd.snd.snd.snd.fst, ()))))))
      ((F_ref08_Disk_Write (x1, r4.fst.fst, ()) ((x4, ()), x5, x6, ())).bind fun r6 =>
       K (r6.fst, ((r6.snd.fst.fst, ()), (r6.snd.snd.fst, ((), (r6.snd.snd.snd.snd.fst, ()))))))))))
noncomputable def F_ref09_Begin : A_ref09_Begin → M_ref09_Begin → Option O_ref09_Begin := fun a b => tree_ref09_Begin F_ref08_Disk_Read F_ref09_Newest F_ref09_Frame F_ref08_Disk_Write a.1 a.2.1 a.2.2.1 b.1.1 b.2.1 b.2.2.1 some
theorem n_ref09_Begin (F_ref08_Disk_Read : A_ref08_Disk_Read → M_ref08_Disk_Read → Option O_ref08_Disk_Read) (F_ref09_Newest : A_ref09_Newest → M_ref09_Newest → Option O_ref09_Newest) (F_ref09_Frame : A_ref09_Frame → M_ref09_Frame → Option O_ref09_Frame) (F_ref08_Disk_Write : A_ref08_Disk_Write → M_ref08_Disk_Write → Option O_ref08_Disk_Write) (x1 : Int) (x2 : Int) (x3 : ByteArray) (x4 : Int) (x5 : List ByteArray) (x6 : List (Int × Int × ByteArray × List Int)) {α : Type} (K : O_ref09_Begin → Option α) : tree_ref09_Begin F_ref08_Disk_Read F_ref09_Newest F_ref09_Frame F_ref08_Disk_Write x1 x2 x3 x4 x5 x6 K = (tree_ref09_Begin F_ref08_Disk_Read F_ref09_Newest F_ref09_Frame F_ref08_Disk_Write x1 x2 x3 x4 x5 x6 some).bind K := by simp only [tree_ref09_Begin, bind_cond, bind_none', bind_some', bind_bind', bind_sum]
theorem Fe_ref09_Begin (x1 : Int) (x2 : Int) (x3 : ByteArray) (x4 : Int) (x5 : List ByteArray) (x6 : List (Int × Int × ByteArray × List Int)) : F_ref09_Begin (x1, (x2, (x3, ()))) ((x4, ()), (x5, (x6, ()))) = tree_ref09_Begin F_ref08_Disk_Read F_ref09_Newest F_ref09_Frame F_ref08_Disk_Write x1 x2 x3 x4 x5 x6 some := rfl

end Go.Proofs.Ytlfedmjjjbhnpaa.S2
