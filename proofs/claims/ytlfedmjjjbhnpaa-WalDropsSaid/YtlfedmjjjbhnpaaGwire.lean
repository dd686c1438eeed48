/- Plain forms of the program's functions, by program. -/
import Derived.Test.YtlfedmjjjbhnpaaS2y
import Derived.Lib.Repeat
set_option maxRecDepth 100000
set_option maxHeartbeats 0
set_option linter.unusedVariables false
set_option linter.unusedSimpArgs false
namespace Go.Proofs.Ytlfedmjjjbhnpaa.S2
open Go
/-! countersign/wire.put -/
def args_wire_put : SkL := (.cons (.const .nils) (.cons (.leaf (.int .u64)) .nil))
def mem_wire_put : MSk := []
def outs_wire_put : List OutC := [⟨(.leaf (.slc 5 (.cons (.int .u8) .nil))), []⟩]
abbrev A_wire_put : Type := (Int × Unit)
abbrev M_wire_put : Type := Unit
abbrev O_wire_put : Type := List Int × Unit
def ltmps_wire_put_1 : SkL := (.cons (.const (.slw 500)) (.cons (.leaf (.int .u64)) (.cons (.const .dead) (.cons (.const .dead) (.cons (.const .dead) (.cons (.const .dead) (.cons (.const .dead) (.cons (.const .dead) (.cons (.const .dead) (.cons (.const .dead) (.cons (.const .dead) (.cons (.const .dead) (.cons (.const .dead) (.cons (.const .dead) (.cons (.const .dead) (.cons (.const .dead) (.cons (.const .dead) (.cons (.const .dead) (.cons (.const .dead) (.cons (.const .dead) .nil))))))))))))))))))))
def lmem_wire_put_1 : MSk := [(500, .row 5 (.cons (.int .u8) .nil))]
def louts_wire_put_1 : List OutL := [⟨(.exit 0), (.cons (.const (.slw 500)) (.cons (.leaf (.int .u64)) (.cons (.const .dead) (.cons (.const .dead) (.cons (.const .dead) (.cons (.const .dead) (.cons (.const .dead) (.cons (.const .dead) (.cons (.const .dead) (.cons (.const .dead) (.cons (.const .dead) (.cons (.const .dead) (.cons (.const .dead) (.cons (.const .dead) (.cons (.const .dead) (.cons (.const .dead) (.cons (.const .dead) (.cons (.const .dead) (.cons (.const .dead) (.cons (.const .dead) .nil)))))))))))))))))))), [(500, .row 5 (.cons (.int .u8) .nil))]⟩]
abbrev LT_wire_put_1 : Type := (Int × Unit)
abbrev LM_wire_put_1 : Type := (List Int × Unit)
abbrev LO_wire_put_1 : Type := (Int × Unit) × (List Int × Unit)
def ltree_wire_put_1 {α : Type} (x1 : Int) (x2 : List Int) (kn : LT_wire_put_1 → LM_wire_put_1 → Option α) (kr : LO_wire_put_1 → Option α) : Option α :=
  cond (decide (x1 ≥ 128))
  (cond (decide   ((x2.length +         ([] ++             [IntKind.u8.wrap                 (↑(BitVec.ofInt 8 (IntKind.u8.wrap x1) ||| BitVec.ofInt 8 128).toNat : Int)]).length) *       1 ≤     140737488355328))
   (kn (x1.fdiv 128, ()) (x2 ++ ([] ++ [IntKind.u8.wrap (↑(BitVec.ofInt 8 (IntKind.u8.wrap x1) ||| BitVec.ofInt 8 128).toNat : Int)]), ()))
   (none))
  (kr ((x1, ()), (x2, ())))
noncomputable def L_wire_put_1 : LT_wire_put_1 → LM_wire_put_1 → Option LO_wire_put_1 := fun x y => runL (fun p => (fun (a : LT_wire_put_1) (b : LM_wire_put_1) => ltree_wire_put_1 a.1 b.1 (fun a' b' => some (.inl (a', b'))) fun r => some (.inr r)) p.1 p.2) (x, y)
theorem nl_wire_put_1 (x1 : Int) (x2 : List Int) {α : Type} (kn : LT_wire_put_1 → LM_wire_put_1 → Option α) (kr : LO_wire_put_1 → Option α) : ltree_wire_put_1 x1 x2 kn kr = (ltree_wire_put_1 x1 x2 (fun a b => some (.inl (a, b))) fun r => some (.inr r)).bind (Sum.elim (fun p : LT_wire_put_1 × LM_wire_put_1 => kn p.1 p.2) kr) := by simp only [ltree_wire_put_1, bind_cond, bind_none', bind_some', bind_bind', bind_sum, Sum.elim_inl, Sum.elim_inr]
theorem Le_wire_put_1 (x1 : Int) (x2 : List Int) : L_wire_put_1 (x1, ()) (x2, ()) = ltree_wire_put_1 x1 x2 L_wire_put_1 some := runL_tree (A := LT_wire_put_1) (B := LM_wire_put_1) (R := LO_wire_put_1) (fun a b kn kr => ltree_wire_put_1 a.1 b.1 kn kr) (fun a b kn kr => nl_wire_put_1 a.1 b.1 kn kr) (x1, ()) (x2, ())
def tree_wire_put (L_wire_put_1 : LT_wire_put_1 → LM_wire_put_1 → Option LO_wire_put_1) {α : Type} (x1 : Int) (K : O_wire_put → Option α) : Option α :=
  (L_wire_put_1 (x1, ()) ([], ())).bind fun r1 =>
  cond (decide ((r1.snd.fst.length + 1) * 1 ≤ 140737488355328))
  (K (r1.snd.fst ++ ([] ++ [IntKind.u8.wrap r1.fst.fst]), ()))
  (none)
noncomputable def F_wire_put : A_wire_put → M_wire_put → Option O_wire_put := fun a b => tree_wire_put L_wire_put_1 a.1 some
theorem n_wire_put (L_wire_put_1 : LT_wire_put_1 → LM_wire_put_1 → Option LO_wire_put_1) (x1 : Int) {α : Type} (K : O_wire_put → Option α) : tree_wire_put L_wire_put_1 x1 K = (tree_wire_put L_wire_put_1 x1 some).bind K := by simp only [tree_wire_put, bind_cond, bind_none', bind_some', bind_bind', bind_sum]
theorem Fe_wire_put (x1 : Int) : F_wire_put (x1, ()) () = tree_wire_put L_wire_put_1 x1 some := rfl

/-! countersign/wire.PutUint -/
def args_wire_PutUint : SkL := (.cons (.leaf (.int .u64)) .nil)
def mem_wire_PutUint : MSk := []
def outs_wire_PutUint : List OutC := [⟨(.leaf .str), []⟩]
abbrev A_wire_PutUint : Type := (Int × Unit)
abbrev M_wire_PutUint : Type := Unit
abbrev O_wire_PutUint : Type := ByteArray × Unit
def tree_wire_PutUint (F_wire_put : A_wire_put → M_wire_put → Option O_wire_put) {α : Type} (x1 : Int) (K : O_wire_PutUint → Option α) : Option α :=
  (F_wire_put (x1, ()) ()).bind fun r1 =>
  K (Go.strOfNums r1.fst, ())
noncomputable def F_wire_PutUint : A_wire_PutUint → M_wire_PutUint → Option O_wire_PutUint := fun a b => tree_wire_PutUint F_wire_put a.1 some
theorem n_wire_PutUint (F_wire_put : A_wire_put → M_wire_put → Option O_wire_put) (x1 : Int) {α : Type} (K : O_wire_PutUint → Option α) : tree_wire_PutUint F_wire_put x1 K = (tree_wire_PutUint F_wire_put x1 some).bind K := by simp only [tree_wire_PutUint, bind_cond, bind_none', bind_some', bind_bind', bind_sum]
theorem Fe_wire_PutUint (x1 : Int) : F_wire_PutUint (x1, ()) () = tree_wire_PutUint F_wire_put x1 some := rfl

/-! countersign/wire.PutText -/
def args_wire_PutText : SkL := (.cons (.leaf .str) .nil)
def mem_wire_PutText : MSk := []
def outs_wire_PutText : List OutC := [⟨(.leaf .str), []⟩]
abbrev A_wire_PutText : Type := (ByteArray × Unit)
abbrev M_wire_PutText : Type := Unit
abbrev O_wire_PutText : Type := ByteArray × Unit
def tree_wire_PutText (F_wire_PutUint : A_wire_PutUint → M_wire_PutUint → Option O_wire_PutUint) {α : Type} (x1 : ByteArray) (K : O_wire_PutText → Option α) : Option α :=
  (F_wire_PutUint (IntKind.u64.wrap (↑x1.size : Int), ()) ()).bind fun r1 =>
  cond (decide (r1.fst.size + x1.size ≤ 9223372036854775807))
  (K (r1.fst ++ x1, ()))
  (none)
noncomputable def F_wire_PutText : A_wire_PutText → M_wire_PutText → Option O_wire_PutText := fun a b => tree_wire_PutText F_wire_PutUint a.1 some
theorem n_wire_PutText (F_wire_PutUint : A_wire_PutUint → M_wire_PutUint → Option O_wire_PutUint) (x1 : ByteArray) {α : Type} (K : O_wire_PutText → Option α) : tree_wire_PutText F_wire_PutUint x1 K = (tree_wire_PutText F_wire_PutUint x1 some).bind K := by simp only [tree_wire_PutText, bind_cond, bind_none', bind_some', bind_bind', bind_sum]
theorem Fe_wire_PutText (x1 : ByteArray) : F_wire_PutText (x1, ()) () = tree_wire_PutText F_wire_PutUint x1 some := rfl

/-! countersign/wire.TakeUint -/
def args_wire_TakeUint : SkL := (.cons (.leaf .str) .nil)
def mem_wire_TakeUint : MSk := []
def outs_wire_TakeUint : List OutC := [⟨(.tup (.cons (.leaf (.int .u64)) (.cons (.leaf .str) (.cons (.leaf .bool) .nil)))), []⟩]
abbrev A_wire_TakeUint : Type := (ByteArray × Unit)
abbrev M_wire_TakeUint : Type := Unit
abbrev O_wire_TakeUint : Type := (Int × ByteArray × Bool × Unit) × Unit
def ltmps_wire_TakeUint_3 : SkL := (.cons (.leaf .str) (.cons (.const .dead) (.cons (.const .dead) (.cons (.const .dead) (.cons (.const .dead) (.cons (.leaf (.int .u64)) (.cons (.const .dead) (.cons (.const .dead) (.cons (.const .dead) (.cons (.leaf (.int .i64)) (.cons (.leaf (.int .i64)) (.cons (.const .dead) (.cons (.const .dead) (.cons (.const .dead) (.cons (.const .dead) (.cons (.const .dead) (.cons (.const .dead) (.cons (.const .dead) (.cons (.const .dead) (.cons (.const .dead) (.cons (.const .dead) (.cons (.const .dead) (.cons (.const .dead) (.cons (.const .dead) (.cons (.const .dead) (.cons (.const .dead) (.cons (.const .dead) (.cons (.const .dead) (.cons (.const .dead) (.cons (.const .dead) (.cons (.const .dead) (.cons (.const .dead) (.cons (.const .dead) (.cons (.const .dead) (.cons (.const .dead) (.cons (.const .dead) (.cons (.const .dead) (.cons (.const .dead) (.cons (.const .dead) (.cons (.const .dead) (.cons (.const .dead) (.cons (.const .dead) (.cons (.const .dead) (.cons (.const .dead) .nil))))))))))))))))))))))))))))))))))))))))))))
def lmem_wire_TakeUint_3 : MSk := []
def louts_wire_TakeUint_3 : List OutL := [⟨(.exit 0), (.cons (.const .dead) (.cons (.const .dead) (.cons (.const .dead) (.cons (.const .dead) (.cons (.const .dead) (.cons (.const .dead) (.cons (.const .dead) (.cons (.const .dead) (.cons (.const .dead) (.cons (.const .dead) (.cons (.const .dead) (.cons (.const .dead) (.cons (.const .dead) (.cons (.const .dead) (.cons (.const .dead) (.cons (.const .dead) (.cons (.const .dead) (.cons (.const .dead) (.cons (.const .dead) (.cons (.const .dead) (.cons (.const .dead) (.cons (.const .dead) (.cons (.const .dead) (.cons (.const .dead) (.cons (.const .dead) (.cons (.const .dead) (.cons (.const .dead) (.cons (.const .dead) (.cons (.const .dead) (.cons (.const .dead) (.cons (.const .dead) (.cons (.const .dead) (.cons (.const .dead) (.cons (.const .dead) (.cons (.const .dead) (.cons (.const .dead) (.cons (.const .dead) (.cons (.const .dead) (.cons (.const .dead) (.cons (.const .dead) (.cons (.const .dead) (.cons (.const .dead) (.cons (.const .dead) (.cons (.const .dead) .nil)))))))))))))))))))))))))))))))))))))))))))), []⟩, ⟨.ret, (.cons (.const .dead) (.cons (.const .dead) (.cons (.leaf (.int .u64)) (.cons (.leaf .str) (.cons (.leaf .bool) (.cons (.const .dead) (.cons (.const .dead) (.cons (.const .dead) (.cons (.const .dead) (.cons (.const .dead) (.cons (.const .dead) (.cons (.const .dead) (.cons (.const .dead) (.cons (.const .dead) (.cons (.const .dead) (.cons (.const .dead) (.cons (.const .dead) (.cons (.const .dead) (.cons (.const .dead) (.cons (.const .dead) (.cons (.const .dead) (.cons (.const .dead) (.cons (.const .dead) (.cons (.const .dead) (.cons (.const .dead) (.cons (.const .dead) (.cons (.const .dead) (.cons (.const .dead) (.cons (.const .dead) (.cons (.const .dead) (.cons (.const .dead) (.cons (.const .dead) (.cons (.const .dead) (.cons (.const .dead) (.cons (.const .dead) (.cons (.const .dead) (.cons (.const .dead) (.cons (.const .dead) (.cons (.const .dead) (.cons (.const .dead) (.cons (.const .dead) (.cons (.const .dead) (.cons (.const .dead) (.cons (.const .dead) .nil)))))))))))))))))))))))))))))))))))))))))))), []⟩]
abbrev LT_wire_TakeUint_3 : Type := (ByteArray × Int × Int × Int × Unit)
abbrev LM_wire_TakeUint_3 : Type := Unit
abbrev LO_wire_TakeUint_3 : Type := (Unit × Unit) ⊕ ((Int × ByteArray × Bool × Unit) × Unit)
def ltree_wire_TakeUint_3 {α : Type} (x1 : ByteArray) (x2 : Int) (x3 : Int) (x4 : Int) (kn : LT_wire_TakeUint_3 → LM_wire_TakeUint_3 → Option α) (kr : LO_wire_TakeUint_3 → Option α) : Option α :=
  cond (decide (x4 < x3))
  (cond (decide (0 ≤ x4))
   (cond (decide (x4 < (↑x1.size : Int)))
    (cond (x4 == 9)
     (cond (decide (Go.Proofs.Ytlfedmjjjbhnpaa.S2.strAt x1 x4 > 1))
      (kr (.inl ((), ())))
      (cond (decide (0 ≤ IntKind.i64.wrap (7 * x4)))
       (cond (decide (Go.Proofs.Ytlfedmjjjbhnpaa.S2.strAt x1 x4 < 128))
        (cond (Go.Proofs.Ytlfedmjjjbhnpaa.S2.strAt x1 x4 == 0)
         (cond (decide (x4 > 0))
          (kr (.inl ((), ())))
          (cond (decide (0 ≤ IntKind.i64.wrap (x4 + 1)))
           (cond (decide (IntKind.i64.wrap (x4 + 1) ≤ (↑x1.size : Int)))
            (kr (.inr ((IntKind.u64.wrap   (↑(BitVec.ofInt 64 x2 |||           BitVec.ofInt 64             (IntKind.u64.wrap               (IntKind.u64.wrap                   (IntKind.u8.wrap                     (↑(BitVec.ofInt 8 (Go.Proofs.Ytlfedmjjjbhnpaa.S2.strAt x1 x4) &&& BitVec.ofInt 8 127).toNat :                       Int)) *                 2 ^ Min.min (IntKind.i64.wrap (7 * x4)).toNat 64))).toNat :     Int), (x1.extract (IntKind.i64.wrap (x4 + 1)).toNat x1.size, (true, ()))), ())))
            (none))
           (none)))
         (cond (decide (0 ≤ IntKind.i64.wrap (x4 + 1)))
          (cond (decide (IntKind.i64.wrap (x4 + 1) ≤ (↑x1.size : Int)))
           (kr (.inr ((IntKind.u64.wrap   (↑(BitVec.ofInt 64 x2 |||           BitVec.ofInt 64             (IntKind.u64.wrap               (IntKind.u64.wrap                   (IntKind.u8.wrap                     (↑(BitVec.ofInt 8 (Go.Proofs.Ytlfedmjjjbhnpaa.S2.strAt x1 x4) &&& BitVec.ofInt 8 127).toNat :                       Int)) *                 2 ^ Min.min (IntKind.i64.wrap (7 * x4)).toNat 64))).toNat :     Int), (x1.extract (IntKind.i64.wrap (x4 + 1)).toNat x1.size, (true, ()))), ())))
           (none))
          (none)))
        (kn (x1, (IntKind.u64.wrap   (↑(BitVec.ofInt 64 x2 |||           BitVec.ofInt 64             (IntKind.u64.wrap               (IntKind.u64.wrap                   (IntKind.u8.wrap                     (↑(BitVec.ofInt 8 (Go.Proofs.Ytlfedmjjjbhnpaa.S2.strAt x1 x4) &&& BitVec.ofInt 8 127).toNat :                       Int)) *                 2 ^ Min.min (IntKind.i64.wrap (7 * x4)).toNat 64))).toNat :     Int), (x3, (IntKind.i64.wrap (x4 + 1), ())))) ()))
       (none)))
     (cond (decide (0 ≤ IntKind.i64.wrap (7 * x4)))
      (cond (decide (Go.Proofs.Ytlfedmjjjbhnpaa.S2.strAt x1 x4 < 128))
       (cond (Go.Proofs.Ytlfedmjjjbhnpaa.S2.strAt x1 x4 == 0)
        (cond (decide (x4 > 0))
         (kr (.inl ((), ())))
         (cond (decide (0 ≤ IntKind.i64.wrap (x4 + 1)))
          (cond (decide (IntKind.i64.wrap (x4 + 1) ≤ (↑x1.size : Int)))
           (kr (.inr ((IntKind.u64.wrap   (↑(BitVec.ofInt 64 x2 |||           BitVec.ofInt 64             (IntKind.u64.wrap               (IntKind.u64.wrap                   (IntKind.u8.wrap                     (↑(BitVec.ofInt 8 (Go.Proofs.Ytlfedmjjjbhnpaa.S2.strAt x1 x4) &&& BitVec.ofInt 8 127).toNat :                       Int)) *                 2 ^ Min.min (IntKind.i64.wrap (7 * x4)).toNat 64))).toNat :     Int), (x1.extract (IntKind.i64.wrap (x4 + 1)).toNat x1.size, (true, ()))), ())))
           (none))
          (none)))
        (cond (decide (0 ≤ IntKind.i64.wrap (x4 + 1)))
         (cond (decide (IntKind.i64.wrap (x4 + 1) ≤ (↑x1.size : Int)))
          (kr (.inr ((IntKind.u64.wrap   (↑(BitVec.ofInt 64 x2 |||           BitVec.ofInt 64             (IntKind.u64.wrap               (IntKind.u64.wrap                   (IntKind.u8.wrap                     (↑(BitVec.ofInt 8 (Go.Proofs.Ytlfedmjjjbhnpaa.S2.strAt x1 x4) &&& BitVec.ofInt 8 127).toNat :                       Int)) *                 2 ^ Min.min (IntKind.i64.wrap (7 * x4)).toNat 64))).toNat :     Int), (x1.extract (IntKind.i64.wrap (x4 + 1)).toNat x1.size, (true, ()))), ())))
          (none))
         (none)))
       (kn (x1, (IntKind.u64.wrap   (↑(BitVec.ofInt 64 x2 |||           BitVec.ofInt 64             (IntKind.u64.wrap               (IntKind.u64.wrap                   (IntKind.u8.wrap                     (↑(BitVec.ofInt 8 (Go.Proofs.Ytlfedmjjjbhnpaa.S2.strAt x1 x4) &&& BitVec.ofInt 8 127).toNat :                       Int)) *                 2 ^ Min.min (IntKind.i64.wrap (7 * x4)).toNat 64))).toNat :     Int), (x3, (IntKind.i64.wrap (x4 + 1), ())))) ()))
      (none)))
    (none))
   (none))
  (kr (.inl ((), ())))
noncomputable def L_wire_TakeUint_3 : LT_wire_TakeUint_3 → LM_wire_TakeUint_3 → Option LO_wire_TakeUint_3 := fun x y => runL (fun p => (fun (a : LT_wire_TakeUint_3) (b : LM_wire_TakeUint_3) => ltree_wire_TakeUint_3 a.1 a.2.1 a.2.2.1 a.2.2.2.1 (fun a' b' => some (.inl (a', b'))) fun r => some (.inr r)) p.1 p.2) (x, y)
theorem nl_wire_TakeUint_3 (x1 : ByteArray) (x2 : Int) (x3 : Int) (x4 : Int) {α : Type} (kn : LT_wire_TakeUint_3 → LM_wire_TakeUint_3 → Option α) (kr : LO_wire_TakeUint_3 → Option α) : ltree_wire_TakeUint_3 x1 x2 x3 x4 kn kr = (ltree_wire_TakeUint_3 x1 x2 x3 x4 (fun a b => some (.inl (a, b))) fun r => some (.inr r)).bind (Sum.elim (fun p : LT_wire_TakeUint_3 × LM_wire_TakeUint_3 => kn p.1 p.2) kr) := by simp only [ltree_wire_TakeUint_3, bind_cond, bind_none', bind_some', bind_bind', bind_sum, Sum.elim_inl, Sum.elim_inr]
theorem Le_wire_TakeUint_3 (x1 : ByteArray) (x2 : Int) (x3 : Int) (x4 : Int) : L_wire_TakeUint_3 (x1, (x2, (x3, (x4, ())))) () = ltree_wire_TakeUint_3 x1 x2 x3 x4 L_wire_TakeUint_3 some := runL_tree (A := LT_wire_TakeUint_3) (B := LM_wire_TakeUint_3) (R := LO_wire_TakeUint_3) (fun a b kn kr => ltree_wire_TakeUint_3 a.1 a.2.1 a.2.2.1 a.2.2.2.1 kn kr) (fun a b kn kr => nl_wire_TakeUint_3 a.1 a.2.1 a.2.2.1 a.2.2.2.1 kn kr) (x1, (x2, (x3, (x4, ())))) ()
def tree_wire_TakeUint (L_wire_TakeUint_3 : LT_wire_TakeUint_3 → LM_wire_TakeUint_3 → Option LO_wire_TakeUint_3) {α : Type} (x1 : ByteArray) (K : O_wire_TakeUint → Option α) : Option α :=
  (L_wire_TakeUint_3 (x1, 0, (↑x1.size : Int), 0, ()) ()).bind fun r1 =>
  Sum.elim (fun u2 =>
   K ((0, (ByteArray.empty, (false, ()))), ()))
  (fun u2 =>
   K ((u2.fst.fst, (u2.fst.snd.fst, (u2.fst.snd.snd.fst, ()))), ())) (r1)
noncomputable def F_wire_TakeUint : A_wire_TakeUint → M_wire_TakeUint → Option O_wire_TakeUint := fun a b => tree_wire_TakeUint L_wire_TakeUint_3 a.1 some
theorem n_wire_TakeUint (L_wire_TakeUint_3 : LT_wire_TakeUint_3 → LM_wire_TakeUint_3 → Option LO_wire_TakeUint_3) (x1 : ByteArray) {α : Type} (K : O_wire_TakeUint → Option α) : tree_wire_TakeUint L_wire_TakeUint_3 x1 K = (tree_wire_TakeUint L_wire_TakeUint_3 x1 some).bind K := by simp only [tree_wire_TakeUint, bind_cond, bind_none', bind_some', bind_bind', bind_sum]
theorem Fe_wire_TakeUint (x1 : ByteArray) : F_wire_TakeUint (x1, ()) () = tree_wire_TakeUint L_wire_TakeUint_3 x1 some := rfl

/-! countersign/wire.TakeText -/
def args_wire_TakeText : SkL := (.cons (.leaf .str) (.cons (.leaf (.int .i64)) .nil))
def mem_wire_TakeText : MSk := []
def outs_wire_TakeText : List OutC := [⟨(.tup (.cons (.leaf .str) (.cons (.leaf .str) (.cons (.leaf .bool) .nil)))), []⟩]
abbrev A_wire_TakeText : Type := (ByteArray × Int × Unit)
abbrev M_wire_TakeText : Type := Unit
abbrev O_wire_TakeText : Type := (ByteArray × ByteArray × Bool × Unit) × Unit
def tree_wire_TakeText (F_wire_TakeUint : A_wire_TakeUint → M_wire_TakeUint → Option O_wire_TakeUint) {α : Type} (x1 : ByteArray) (x2 : Int) (K : O_wire_TakeText → Option α) : Option α :=
  (F_wire_TakeUint (x1, ()) ()).bind fun r1 =>
  cond (!r1.fst.snd.snd.fst)
  (K ((ByteArray.empty, (ByteArray.empty, (false, ()))), ()))
  (cond (decide (x2 < 0))
   (K ((ByteArray.empty, (ByteArray.empty, (false, ()))), ()))
   (cond (decide (r1.fst.fst > IntKind.u64.wrap x2))
    (K ((ByteArray.empty, (ByteArray.empty, (false, ()))), ()))
    (cond (decide (r1.fst.fst > IntKind.u64.wrap (↑r1.fst.snd.fst.size : Int)))
     (K ((ByteArray.empty, (ByteArray.empty, (false, ()))), ()))
     (cond (decide (0 ≤ r1.fst.fst))
      (cond (decide (r1.fst.fst ≤ (↑r1.fst.snd.fst.size : Int)))
       (cond (decide (0 ≤ r1.fst.fst))
        (cond (decide (r1.fst.fst ≤ (↑r1.fst.snd.fst.size : Int)))
         (K ((r1.fst.snd.fst.extract 0 r1.fst.fst.toNat, (r1.fst.snd.fst.extract r1.fst.fst.toNat r1.fst.snd.fst.size, (true, ()))), ()))
         (none))
        (none))
       (none))
      (none)))))
noncomputable def F_wire_TakeText : A_wire_TakeText → M_wire_TakeText → Option O_wire_TakeText := fun a b => tree_wire_TakeText F_wire_TakeUint a.1 a.2.1 some
theorem n_wire_TakeText (F_wire_TakeUint : A_wire_TakeUint → M_wire_TakeUint → Option O_wire_TakeUint) (x1 : ByteArray) (x2 : Int) {α : Type} (K : O_wire_TakeText → Option α) : tree_wire_TakeText F_wire_TakeUint x1 x2 K = (tree_wire_TakeText F_wire_TakeUint x1 x2 some).bind K := by simp only [tree_wire_TakeText, bind_cond, bind_none', bind_some', bind_bind', bind_sum]
theorem Fe_wire_TakeText (x1 : ByteArray) (x2 : Int) : F_wire_TakeText (x1, (x2, ())) () = tree_wire_TakeText F_wire_TakeUint x1 x2 some := rfl

end Go.Proofs.Ytlfedmjjjbhnpaa.S2
