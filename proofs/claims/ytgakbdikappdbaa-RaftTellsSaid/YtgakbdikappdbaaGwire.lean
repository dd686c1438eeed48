/- Plain forms of the program's functions, by program. -/
import Derived.Test.YtgakbdikappdbaaS2y
set_option maxRecDepth 100000
set_option maxHeartbeats 0
set_option linter.unusedVariables false
set_option linter.unusedSimpArgs false
namespace Go.Proofs.Ytgakbdikappdbaa.S2
open Go
def args_wire_TakeUint : SkL := (.cons (.leaf .str) .nil)
def mem_wire_TakeUint : MSk := []
def outs_wire_TakeUint : List OutC := [⟨(.tup (.cons (.leaf (.int .u64)) (.cons (.leaf .str) (.cons (.leaf .bool) .nil)))), []⟩]
abbrev A_wire_TakeUint : Type := (ByteArray × Unit)
abbrev M_wire_TakeUint : Type := Unit
abbrev O_wire_TakeUint : Type := (Int × ByteArray × Bool × Unit) × Unit
def ltmps_wire_TakeUint_3 : SkL := (.cons (.leaf .str) (dz 4 (.cons (.leaf (.int .u64)) (dz 3 (.cons (.leaf (.int .i64)) (.cons (.leaf (.int .i64)) (dz 33 .nil)))))))
def lmem_wire_TakeUint_3 : MSk := []
def louts_wire_TakeUint_3 : List OutL := [⟨(.exit 0), (dz 44 .nil), []⟩, ⟨.ret, (dz 2 (.cons (.leaf (.int .u64)) (.cons (.leaf .str) (.cons (.leaf .bool) (dz 39 .nil))))), []⟩]
abbrev LT_wire_TakeUint_3 : Type := (ByteArray × Int × Int × Int × Unit)
abbrev LM_wire_TakeUint_3 : Type := Unit
abbrev LO_wire_TakeUint_3 : Type := (Unit × Unit) ⊕ ((Int × ByteArray × Bool × Unit) × Unit)
def ltree_wire_TakeUint_3 {α : Type} (x1 : ByteArray) (x2 : Int) (x3 : Int) (x4 : Int) (kn : LT_wire_TakeUint_3 → LM_wire_TakeUint_3 → Option α) (kr : LO_wire_TakeUint_3 → Option α) : Option α :=
  cond (decide (x4 < x3))
  (cond (decide (0 ≤ x4))
   (cond (decide (x4 < (↑x1.size : Int)))
    (cond (x4 == 9)
     (cond (decide (Go.Proofs.Ytgakbdikappdbaa.S2.strAt x1 x4 > 1))
      (kr (.inl ((), ())))
      (cond (decide (0 ≤ IntKind.i64.wrap (7 * x4)))
       (cond (decide (Go.Proofs.Ytgakbdikappdbaa.S2.strAt x1 x4 < 128))
        (cond (Go.Proofs.Ytgakbdikappdbaa.S2.strAt x1 x4 == 0)
         (cond (decide (x4 > 0))
          (kr (.inl ((), ())))
          (cond (decide (0 ≤ IntKind.i64.wrap (x4 + 1)))
           (cond (decide (IntKind.i64.wrap (x4 + 1) ≤ (↑x1.size : Int)))
            (kr (.inr ((IntKind.u64.wrap   (↑(BitVec.ofInt 64 x2 |||           BitVec.ofInt 64             (IntKind.u64.wrap               (IntKind.u64.wrap                   (IntKind.u8.wrap                     (↑(BitVec.ofInt 8 (Go.Proofs.Ytgakbdikappdbaa.S2.strAt x1 x4) &&& BitVec.ofInt 8 127).toNat :                       Int)) *                 2 ^ Min.min (IntKind.i64.wrap (7 * x4)).toNat 64))).toNat :     Int), (x1.extract (IntKind.i64.wrap (x4 + 1)).toNat x1.size, (true, ()))), ())))
            (none))
           (none)))
         (cond (decide (0 ≤ IntKind.i64.wrap (x4 + 1)))
          (cond (decide (IntKind.i64.wrap (x4 + 1) ≤ (↑x1.size : Int)))
           (kr (.inr ((IntKind.u64.wrap   (↑(BitVec.ofInt 64 x2 |||           BitVec.ofInt 64             (IntKind.u64.wrap               (IntKind.u64.wrap                   (IntKind.u8.wrap                     (↑(BitVec.ofInt 8 (Go.Proofs.Ytgakbdikappdbaa.S2.strAt x1 x4) &&& BitVec.ofInt 8 127).toNat :                       Int)) *                 2 ^ Min.min (IntKind.i64.wrap (7 * x4)).toNat 64))).toNat :     Int), (x1.extract (IntKind.i64.wrap (x4 + 1)).toNat x1.size, (true, ()))), ())))
           (none))
          (none)))
        (kn (x1, (IntKind.u64.wrap   (↑(BitVec.ofInt 64 x2 |||           BitVec.ofInt 64             (IntKind.u64.wrap               (IntKind.u64.wrap                   (IntKind.u8.wrap                     (↑(BitVec.ofInt 8 (Go.Proofs.Ytgakbdikappdbaa.S2.strAt x1 x4) &&& BitVec.ofInt 8 127).toNat :                       Int)) *                 2 ^ Min.min (IntKind.i64.wrap (7 * x4)).toNat 64))).toNat :     Int), (x3, (IntKind.i64.wrap (x4 + 1), ())))) ()))
       (none)))
     (cond (decide (0 ≤ IntKind.i64.wrap (7 * x4)))
      (cond (decide (Go.Proofs.Ytgakbdikappdbaa.S2.strAt x1 x4 < 128))
       (cond (Go.Proofs.Ytgakbdikappdbaa.S2.strAt x1 x4 == 0)
        (cond (decide (x4 > 0))
         (kr (.inl ((), ())))
         (cond (decide (0 ≤ IntKind.i64.wrap (x4 + 1)))
          (cond (decide (IntKind.i64.wrap (x4 + 1) ≤ (↑x1.size : Int)))
           (kr (.inr ((IntKind.u64.wrap   (↑(BitVec.ofInt 64 x2 |||           BitVec.ofInt 64             (IntKind.u64.wrap               (IntKind.u64.wrap                   (IntKind.u8.wrap                     (↑(BitVec.ofInt 8 (Go.Proofs.Ytgakbdikappdbaa.S2.strAt x1 x4) &&& BitVec.ofInt 8 127).toNat :                       Int)) *                 2 ^ Min.min (IntKind.i64.wrap (7 * x4)).toNat 64))).toNat :     Int), (x1.extract (IntKind.i64.wrap (x4 + 1)).toNat x1.size, (true, ()))), ())))
           (none))
          (none)))
        (cond (decide (0 ≤ IntKind.i64.wrap (x4 + 1)))
         (cond (decide (IntKind.i64.wrap (x4 + 1) ≤ (↑x1.size : Int)))
          (kr (.inr ((IntKind.u64.wrap   (↑(BitVec.ofInt 64 x2 |||           BitVec.ofInt 64             (IntKind.u64.wrap               (IntKind.u64.wrap                   (IntKind.u8.wrap                     (↑(BitVec.ofInt 8 (Go.Proofs.Ytgakbdikappdbaa.S2.strAt x1 x4) &&& BitVec.ofInt 8 127).toNat :                       Int)) *                 2 ^ Min.min (IntKind.i64.wrap (7 * x4)).toNat 64))).toNat :     Int), (x1.extract (IntKind.i64.wrap (x4 + 1)).toNat x1.size, (true, ()))), ())))
          (none))
         (none)))
       (kn (x1, (IntKind.u64.wrap   (↑(BitVec.ofInt 64 x2 |||           BitVec.ofInt 64             (IntKind.u64.wrap               (IntKind.u64.wrap                   (IntKind.u8.wrap                     (↑(BitVec.ofInt 8 (Go.Proofs.Ytgakbdikappdbaa.S2.strAt x1 x4) &&& BitVec.ofInt 8 127).toNat :                       Int)) *                 2 ^ Min.min (IntKind.i64.wrap (7 * x4)).toNat 64))).toNat :     Int), (x3, (IntKind.i64.wrap (x4 + 1), ())))) ()))
      (none)))
    (none))
   (none))
  (kr (.inl ((), ())))
noncomputable def L_wire_TakeUint_3 : LT_wire_TakeUint_3 → LM_wire_TakeUint_3 → Option LO_wire_TakeUint_3 := fun x y => runL (fun p => (fun (a : LT_wire_TakeUint_3) (b : LM_wire_TakeUint_3) => ltree_wire_TakeUint_3 a.1 a.2.1 a.2.2.1 a.2.2.2.1 (fun a' b' => some (.inl (a', b'))) fun r => some (.inr r)) p.1 p.2) (x, y)
theorem nl_wire_TakeUint_3 (x1 : ByteArray) (x2 : Int) (x3 : Int) (x4 : Int) {α : Type} (kn : LT_wire_TakeUint_3 → LM_wire_TakeUint_3 → Option α) (kr : LO_wire_TakeUint_3 → Option α) : ltree_wire_TakeUint_3 x1 x2 x3 x4 kn kr = (ltree_wire_TakeUint_3 x1 x2 x3 x4 (fun a b => some (.inl (a, b))) fun r => some (.inr r)).bind (Sum.elim (fun p : LT_wire_TakeUint_3 × LM_wire_TakeUint_3 => kn p.1 p.2) kr) := by simp only [ltree_wire_TakeUint_3, bind_cond, bind_none', bind_some', bind_bind', bind_sum, Sum.elim_inl, Sum.elim_inr]
theorem Le_wire_TakeUint_3 (x1 : ByteArray) (x2 : Int) (x3 : Int) (x4 : Int) : L_wire_TakeUint_3 (x1, (x2, (x3, (x4, ())))) () = ltree_wire_TakeUint_3 x1 x2 x3 x4 L_wire_TakeUint_3 some := runL_tree (A := LT_wire_TakeUint_3) (B := LM_wire_TakeUint_3) (R := LO_wire_TakeUint_3) (fun a b kn kr => ltree_wire_TakeUint_3 a.1 a.2.1 a.2.2.1 a.2.2.2.1 kn kr) (fun a b kn kr => nl_wire_TakeUint_3 a.1 a.2.1 a.2.2.1 a.2.2.2.1 kn kr) (x1, (x2, (x3, (x4, ())))) ()
def tree_wire_TakeUint (L_wire_TakeUint_3 : LT_wire_TakeUint_3 → LM_wire_TakeUint_3 → Option LO_wire_TakeUint_3) {α : Type} (x1 : ByteArray) (K : O_wire_TakeUint → Option α) : Option α :=
  (L_wire_TakeUint_3 (x1, 0, (↑x1.size : Int), 0, ()) ()).bind fun r1 =>
  Sum.elim (fun u2 =>
   K ((0, (ByteArray.empty, (false, ()))), ()))
  (fun u2 =>
   K ((u2.fst.fst, (u2.fst.snd.fst, (u2.fst.snd.snd.fst, ()))), ())) (r1)
noncomputable def F_wire_TakeUint : A_wire_TakeUint → M_wire_TakeUint → Option O_wire_TakeUint := fun a b => tree_wire_TakeUint L_wire_TakeUint_3 a.1 some
theorem n_wire_TakeUint (L_wire_TakeUint_3 : LT_wire_TakeUint_3 → LM_wire_TakeUint_3 → Option LO_wire_TakeUint_3) (x1 : ByteArray) {α : Type} (K : O_wire_TakeUint → Option α) : tree_wire_TakeUint L_wire_TakeUint_3 x1 K = (tree_wire_TakeUint L_wire_TakeUint_3 x1 some).bind K := by simp only [tree_wire_TakeUint, bind_cond, bind_none', bind_some', bind_bind', bind_sum]
theorem Fe_wire_TakeUint (x1 : ByteArray) : F_wire_TakeUint (x1, ()) () = tree_wire_TakeUint L_wire_TakeUint_3 x1 some := rfl
def args_wire_many : SkL := (.cons (.leaf .str) (.cons (.leaf (.int .i64)) .nil))
def mem_wire_many : MSk := []
def outs_wire_many : List OutC := [⟨(.tup (.cons (.leaf (.int .i64)) (.cons (.leaf .str) (.cons (.leaf .bool) .nil)))), []⟩]
abbrev A_wire_many : Type := (ByteArray × Int × Unit)
abbrev M_wire_many : Type := Unit
abbrev O_wire_many : Type := (Int × ByteArray × Bool × Unit) × Unit
def tree_wire_many (F_wire_TakeUint : A_wire_TakeUint → M_wire_TakeUint → Option O_wire_TakeUint) {α : Type} (x1 : ByteArray) (x2 : Int) (K : O_wire_many → Option α) : Option α :=
  (F_wire_TakeUint (x1, ()) ()).bind fun r1 =>
  cond (!r1.fst.snd.snd.fst)
  (K ((0, (ByteArray.empty, (false, ()))), ()))
  (cond (decide (x2 < 0))
   (K ((0, (ByteArray.empty, (false, ()))), ()))
   (cond (decide (r1.fst.fst > IntKind.u64.wrap x2))
    (K ((0, (ByteArray.empty, (false, ()))), ()))
    (cond (decide (r1.fst.fst > IntKind.u64.wrap (↑r1.fst.snd.fst.size : Int)))
     (K ((0, (ByteArray.empty, (false, ()))), ()))
     (K ((IntKind.i64.wrap r1.fst.fst, (r1.fst.snd.fst, (true, ()))), ())))))
noncomputable def F_wire_many : A_wire_many → M_wire_many → Option O_wire_many := fun a b => tree_wire_many F_wire_TakeUint a.1 a.2.1 some
theorem n_wire_many (F_wire_TakeUint : A_wire_TakeUint → M_wire_TakeUint → Option O_wire_TakeUint) (x1 : ByteArray) (x2 : Int) {α : Type} (K : O_wire_many → Option α) : tree_wire_many F_wire_TakeUint x1 x2 K = (tree_wire_many F_wire_TakeUint x1 x2 some).bind K := by simp only [tree_wire_many, bind_cond, bind_none', bind_some', bind_bind', bind_sum]
theorem Fe_wire_many (x1 : ByteArray) (x2 : Int) : F_wire_many (x1, (x2, ())) () = tree_wire_many F_wire_TakeUint x1 x2 some := rfl
def args_wire_TakeNums : SkL := (.cons (.leaf .str) (.cons (.leaf (.int .i64)) .nil))
def mem_wire_TakeNums : MSk := []
def outs_wire_TakeNums : List OutC := [⟨(.tup (.cons (.leaf (.slc 22 (.cons (.int .u64) .nil))) (.cons (.leaf .str) (.cons (.leaf .bool) .nil)))), []⟩]
abbrev A_wire_TakeNums : Type := (ByteArray × Int × Unit)
abbrev M_wire_TakeNums : Type := Unit
abbrev O_wire_TakeNums : Type := (List Int × ByteArray × Bool × Unit) × Unit
def ltmps_wire_TakeNums_6 : SkL := (dz 8 (.cons (.leaf .str) (.cons (.const .dead) (.cons (.const (.slw 510)) (dz 10 (.cons (.leaf (.int .i64)) (.cons (.leaf (.int .i64)) (dz 16 .nil))))))))
def lmem_wire_TakeNums_6 : MSk := [(510, .row 22 (.cons (.int .u64) .nil))]
def louts_wire_TakeNums_6 : List OutL := [⟨.ret, (dz 4 (.cons (.const .nils) (.cons (.leaf .str) (.cons (.leaf .bool) (.cons (.const .dead) (.cons (.leaf .str) (.cons (.const .dead) (.cons (.const (.slw 510)) (dz 28 .nil))))))))), [(510, .row 22 (.cons (.int .u64) .nil))]⟩, ⟨(.exit 0), (dz 8 (.cons (.leaf .str) (.cons (.const .dead) (.cons (.const (.slw 510)) (dz 28 .nil))))), [(510, .row 22 (.cons (.int .u64) .nil))]⟩]
abbrev LT_wire_TakeNums_6 : Type := (ByteArray × Int × Int × Unit)
abbrev LM_wire_TakeNums_6 : Type := (List Int × Unit)
abbrev LO_wire_TakeNums_6 : Type := ((ByteArray × Bool × ByteArray × Unit) × (List Int × Unit)) ⊕ ((ByteArray × Unit) × (List Int × Unit))
def ltree_wire_TakeNums_6 (F_wire_TakeUint : A_wire_TakeUint → M_wire_TakeUint → Option O_wire_TakeUint) {α : Type} (x1 : ByteArray) (x2 : Int) (x3 : Int) (x4 : List Int) (kn : LT_wire_TakeNums_6 → LM_wire_TakeNums_6 → Option α) (kr : LO_wire_TakeNums_6 → Option α) : Option α :=
  cond (decide (x3 < x2))
  ((F_wire_TakeUint (x1, ()) ()).bind fun r1 =>
   cond (!r1.fst.snd.snd.fst)
   (kr (.inl ((ByteArray.empty, (false, (r1.fst.snd.fst, ()))), (x4, ()))))
   (cond (decide ((x4.length + 1) * 8 ≤ 140737488355328))
    (kn (r1.fst.snd.fst, (x2, (IntKind.i64.wrap (x3 + 1), ()))) (x4 ++ ([] ++ [r1.fst.fst]), ()))
    (none)))
  (kr (.inr ((x1, ()), (x4, ()))))
noncomputable def L_wire_TakeNums_6 : LT_wire_TakeNums_6 → LM_wire_TakeNums_6 → Option LO_wire_TakeNums_6 := fun x y => runL (fun p => (fun (a : LT_wire_TakeNums_6) (b : LM_wire_TakeNums_6) => ltree_wire_TakeNums_6 F_wire_TakeUint a.1 a.2.1 a.2.2.1 b.1 (fun a' b' => some (.inl (a', b'))) fun r => some (.inr r)) p.1 p.2) (x, y)
theorem nl_wire_TakeNums_6 (F_wire_TakeUint : A_wire_TakeUint → M_wire_TakeUint → Option O_wire_TakeUint) (x1 : ByteArray) (x2 : Int) (x3 : Int) (x4 : List Int) {α : Type} (kn : LT_wire_TakeNums_6 → LM_wire_TakeNums_6 → Option α) (kr : LO_wire_TakeNums_6 → Option α) : ltree_wire_TakeNums_6 F_wire_TakeUint x1 x2 x3 x4 kn kr = (ltree_wire_TakeNums_6 F_wire_TakeUint x1 x2 x3 x4 (fun a b => some (.inl (a, b))) fun r => some (.inr r)).bind (Sum.elim (fun p : LT_wire_TakeNums_6 × LM_wire_TakeNums_6 => kn p.1 p.2) kr) := by simp only [ltree_wire_TakeNums_6, bind_cond, bind_none', bind_some', bind_bind', bind_sum, Sum.elim_inl, Sum.elim_inr]
theorem Le_wire_TakeNums_6 (x1 : ByteArray) (x2 : Int) (x3 : Int) (x4 : List Int) : L_wire_TakeNums_6 (x1, (x2, (x3, ()))) (x4, ()) = ltree_wire_TakeNums_6 F_wire_TakeUint x1 x2 x3 x4 L_wire_TakeNums_6 some := runL_tree (A := LT_wire_TakeNums_6) (B := LM_wire_TakeNums_6) (R := LO_wire_TakeNums_6) (fun a b kn kr => ltree_wire_TakeNums_6 F_wire_TakeUint a.1 a.2.1 a.2.2.1 b.1 kn kr) (fun a b kn kr => nl_wire_TakeNums_6 F_wire_TakeUint a.1 a.2.1 a.2.2.1 b.1 kn kr) (x1, (x2, (x3, ()))) (x4, ())
def tree_wire_TakeNums (F_wire_many : A_wire_many → M_wire_many → Option O_wire_many) (L_wire_TakeNums_6 : LT_wire_TakeNums_6 → LM_wire_TakeNums_6 → Option LO_wire_TakeNums_6) {α : Type} (x1 : ByteArray) (x2 : Int) (K : O_wire_TakeNums → Option α) : Option α :=
  (F_wire_many (x1, x2, ()) ()).bind fun r1 =>
  cond (!r1.fst.snd.snd.fst)
  (K (([], (ByteArray.empty, (false, ()))), ()))
  ((L_wire_TakeNums_6 (r1.fst.snd.fst, r1.fst.fst, 0, ()) ([], ())).bind fun r2 =>
   Sum.elim (fun u3 =>
    K (([], (u3.fst.fst, (u3.fst.snd.fst, ()))), ()))
   (fun u3 =>
    K ((u3.snd.fst, (u3.fst.fst, (true, ()))), ())) (r2))
noncomputable def F_wire_TakeNums : A_wire_TakeNums → M_wire_TakeNums → Option O_wire_TakeNums := fun a b => tree_wire_TakeNums F_wire_many L_wire_TakeNums_6 a.1 a.2.1 some
theorem n_wire_TakeNums (F_wire_many : A_wire_many → M_wire_many → Option O_wire_many) (L_wire_TakeNums_6 : LT_wire_TakeNums_6 → LM_wire_TakeNums_6 → Option LO_wire_TakeNums_6) (x1 : ByteArray) (x2 : Int) {α : Type} (K : O_wire_TakeNums → Option α) : tree_wire_TakeNums F_wire_many L_wire_TakeNums_6 x1 x2 K = (tree_wire_TakeNums F_wire_many L_wire_TakeNums_6 x1 x2 some).bind K := by simp only [tree_wire_TakeNums, bind_cond, bind_none', bind_some', bind_bind', bind_sum]
theorem Fe_wire_TakeNums (x1 : ByteArray) (x2 : Int) : F_wire_TakeNums (x1, (x2, ())) () = tree_wire_TakeNums F_wire_many L_wire_TakeNums_6 x1 x2 some := rfl
end Go.Proofs.Ytgakbdikappdbaa.S2
