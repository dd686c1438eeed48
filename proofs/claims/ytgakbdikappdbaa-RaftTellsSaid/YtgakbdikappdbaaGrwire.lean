/- Plain forms of the program's functions, by program. -/
import Derived.Test.YtgakbdikappdbaaS2y
set_option maxRecDepth 100000
set_option maxHeartbeats 0
set_option linter.unusedVariables false
set_option linter.unusedSimpArgs false
namespace Go.Proofs.Ytgakbdikappdbaa.S2
open Go
def args_ref01_PutUint : SkL := (.cons (.leaf (.int .u64)) .nil)
def mem_ref01_PutUint : MSk := []
def outs_ref01_PutUint : List OutC := [⟨(.leaf .str), []⟩]
abbrev A_ref01_PutUint : Type := (Int × Unit)
abbrev M_ref01_PutUint : Type := Unit
abbrev O_ref01_PutUint : Type := ByteArray × Unit
def ltmps_ref01_PutUint_2 : SkL := (.cons (.leaf (.int .u64)) (dz 2 (.cons (.const (.slw 503)) (dz 19 .nil))))
def lmem_ref01_PutUint_2 : MSk := [(503, .row 5 (.cons (.int .u8) .nil))]
def louts_ref01_PutUint_2 : List OutL := [⟨(.exit 0), (.cons (.leaf (.int .u64)) (dz 2 (.cons (.const (.slw 503)) (dz 19 .nil)))), [(503, .row 5 (.cons (.int .u8) .nil))]⟩]
abbrev LT_ref01_PutUint_2 : Type := (Int × Unit)
abbrev LM_ref01_PutUint_2 : Type := (List Int × Unit)
abbrev LO_ref01_PutUint_2 : Type := (Int × Unit) × (List Int × Unit)
def ltree_ref01_PutUint_2 {α : Type} (x1 : Int) (x2 : List Int) (kn : LT_ref01_PutUint_2 → LM_ref01_PutUint_2 → Option α) (kr : LO_ref01_PutUint_2 → Option α) : Option α :=
  cond (decide (x1 > 127))
  (cond (decide   ((x2.length + 1) * 1 ≤ 140737488355328))
   (kn (IntKind.u64.wrap (x1.tdiv 128), ()) (x2 ++ ([] ++ [IntKind.u8.wrap (IntKind.u64.wrap (x1.tmod 128 + 128))]), ()))
   (none))
  (kr ((x1, ()), (x2, ())))
noncomputable def L_ref01_PutUint_2 : LT_ref01_PutUint_2 → LM_ref01_PutUint_2 → Option LO_ref01_PutUint_2 := fun x y => runL (fun p => (fun (a : LT_ref01_PutUint_2) (b : LM_ref01_PutUint_2) => ltree_ref01_PutUint_2 a.1 b.1 (fun a' b' => some (.inl (a', b'))) fun r => some (.inr r)) p.1 p.2) (x, y)
theorem nl_ref01_PutUint_2 (x1 : Int) (x2 : List Int) {α : Type} (kn : LT_ref01_PutUint_2 → LM_ref01_PutUint_2 → Option α) (kr : LO_ref01_PutUint_2 → Option α) : ltree_ref01_PutUint_2 x1 x2 kn kr = (ltree_ref01_PutUint_2 x1 x2 (fun a b => some (.inl (a, b))) fun r => some (.inr r)).bind (Sum.elim (fun p : LT_ref01_PutUint_2 × LM_ref01_PutUint_2 => kn p.1 p.2) kr) := by simp only [ltree_ref01_PutUint_2, bind_cond, bind_none', bind_some', bind_bind', bind_sum, Sum.elim_inl, Sum.elim_inr]
theorem Le_ref01_PutUint_2 (x1 : Int) (x2 : List Int) : L_ref01_PutUint_2 (x1, ()) (x2, ()) = ltree_ref01_PutUint_2 x1 x2 L_ref01_PutUint_2 some := runL_tree (A := LT_ref01_PutUint_2) (B := LM_ref01_PutUint_2) (R := LO_ref01_PutUint_2) (fun a b kn kr => ltree_ref01_PutUint_2 a.1 b.1 kn kr) (fun a b kn kr => nl_ref01_PutUint_2 a.1 b.1 kn kr) (x1, ()) (x2, ())
def tree_ref01_PutUint (L_ref01_PutUint_2 : LT_ref01_PutUint_2 → LM_ref01_PutUint_2 → Option LO_ref01_PutUint_2) {α : Type} (x1 : Int) (K : O_ref01_PutUint → Option α) : Option α :=
  (L_ref01_PutUint_2 (x1, ()) ([], ())).bind fun r1 =>
  cond (decide ((r1.snd.fst.length + 1) * 1 ≤ 140737488355328))
  (K (Go.strOfNums (r1.snd.fst ++ ([] ++ [IntKind.u8.wrap r1.fst.fst])), ()))
  (none)
noncomputable def F_ref01_PutUint : A_ref01_PutUint → M_ref01_PutUint → Option O_ref01_PutUint := fun a b => tree_ref01_PutUint L_ref01_PutUint_2 a.1 some
theorem n_ref01_PutUint (L_ref01_PutUint_2 : LT_ref01_PutUint_2 → LM_ref01_PutUint_2 → Option LO_ref01_PutUint_2) (x1 : Int) {α : Type} (K : O_ref01_PutUint → Option α) : tree_ref01_PutUint L_ref01_PutUint_2 x1 K = (tree_ref01_PutUint L_ref01_PutUint_2 x1 some).bind K := by simp only [tree_ref01_PutUint, bind_cond, bind_none', bind_some', bind_bind', bind_sum]
theorem Fe_ref01_PutUint (x1 : Int) : F_ref01_PutUint (x1, ()) () = tree_ref01_PutUint L_ref01_PutUint_2 x1 some := rfl
def args_ref01_TakeUint : SkL := (.cons (.leaf .str) .nil)
def mem_ref01_TakeUint : MSk := []
def outs_ref01_TakeUint : List OutC := [⟨(.tup (.cons (.leaf (.int .u64)) (.cons (.leaf .str) (.cons (.leaf .bool) .nil)))), []⟩]
abbrev A_ref01_TakeUint : Type := (ByteArray × Unit)
abbrev M_ref01_TakeUint : Type := Unit
abbrev O_ref01_TakeUint : Type := (Int × ByteArray × Bool × Unit) × Unit
def ltmps_ref01_TakeUint_4 : SkL := (.cons (.leaf .str) (dz 4 (.cons (.leaf (.int .u64)) (.cons (.leaf (.int .u64)) (.cons (.leaf (.int .i64)) (dz 37 .nil))))))
def lmem_ref01_TakeUint_4 : MSk := []
def louts_ref01_TakeUint_4 : List OutL := [⟨(.exit 0), (dz 45 .nil), []⟩, ⟨.ret, (dz 2 (.cons (.leaf (.int .u64)) (.cons (.leaf .str) (.cons (.leaf .bool) (dz 40 .nil))))), []⟩]
abbrev LT_ref01_TakeUint_4 : Type := (ByteArray × Int × Int × Int × Unit)
abbrev LM_ref01_TakeUint_4 : Type := Unit
abbrev LO_ref01_TakeUint_4 : Type := (Unit × Unit) ⊕ ((Int × ByteArray × Bool × Unit) × Unit)
def ltree_ref01_TakeUint_4 (F_ref01_PutUint : A_ref01_PutUint → M_ref01_PutUint → Option O_ref01_PutUint) {α : Type} (x1 : ByteArray) (x2 : Int) (x3 : Int) (x4 : Int) (kn : LT_ref01_TakeUint_4 → LM_ref01_TakeUint_4 → Option α) (kr : LO_ref01_TakeUint_4 → Option α) : Option α :=
  cond (decide (x4 < (↑x1.size : Int)))
  (cond (decide (x4 < 10))
   (cond (decide (0 ≤ x4))
    (cond (decide (x4 < (↑x1.size : Int)))
     (cond (decide (IntKind.u64.wrap (Go.Proofs.Ytgakbdikappdbaa.S2.strAt x1 x4) < 128))
      ((F_ref01_PutUint   (IntKind.u64.wrap       (x2 + IntKind.u64.wrap (x3 * (IntKind.u64.wrap (Go.Proofs.Ytgakbdikappdbaa.S2.strAt x1 x4)).tmod 128)),     ())   ()).bind fun r1 =>
       cond (decide (0 ≤ IntKind.i64.wrap (x4 + 1)))
       (cond (decide (IntKind.i64.wrap (x4 + 1) ≤ (↑x1.size : Int)))
        (cond (!r1.fst.toList == (x1.extract 0 (IntKind.i64.wrap (x4 + 1)).toNat).toList)
         (kr (.inl ((), ())))
         (cond (decide (0 ≤ IntKind.i64.wrap (x4 + 1)))
          (cond (decide (IntKind.i64.wrap (x4 + 1) ≤ (↑x1.size : Int)))
           (kr (.inr ((IntKind.u64.wrap   (x2 + IntKind.u64.wrap (x3 * (IntKind.u64.wrap (Go.Proofs.Ytgakbdikappdbaa.S2.strAt x1 x4)).tmod 128)), (x1.extract (IntKind.i64.wrap (x4 + 1)).toNat x1.size, (true, ()))), ())))
           (none))
          (none)))
        (none))
       (none))
      (kn (x1, (IntKind.u64.wrap   (x2 + IntKind.u64.wrap (x3 * (IntKind.u64.wrap (Go.Proofs.Ytgakbdikappdbaa.S2.strAt x1 x4)).tmod 128)), (IntKind.u64.wrap (x3 * 128), (IntKind.i64.wrap (x4 + 1), ())))) ()))
     (none))
    (none))
   (kr (.inl ((), ()))))
  (kr (.inl ((), ())))
noncomputable def L_ref01_TakeUint_4 : LT_ref01_TakeUint_4 → LM_ref01_TakeUint_4 → Option LO_ref01_TakeUint_4 := fun x y => runL (fun p => (fun (a : LT_ref01_TakeUint_4) (b : LM_ref01_TakeUint_4) => ltree_ref01_TakeUint_4 F_ref01_PutUint a.1 a.2.1 a.2.2.1 a.2.2.2.1 (fun a' b' => some (.inl (a', b'))) fun r => some (.inr r)) p.1 p.2) (x, y)
theorem nl_ref01_TakeUint_4 (F_ref01_PutUint : A_ref01_PutUint → M_ref01_PutUint → Option O_ref01_PutUint) (x1 : ByteArray) (x2 : Int) (x3 : Int) (x4 : Int) {α : Type} (kn : LT_ref01_TakeUint_4 → LM_ref01_TakeUint_4 → Option α) (kr : LO_ref01_TakeUint_4 → Option α) : ltree_ref01_TakeUint_4 F_ref01_PutUint x1 x2 x3 x4 kn kr = (ltree_ref01_TakeUint_4 F_ref01_PutUint x1 x2 x3 x4 (fun a b => some (.inl (a, b))) fun r => some (.inr r)).bind (Sum.elim (fun p : LT_ref01_TakeUint_4 × LM_ref01_TakeUint_4 => kn p.1 p.2) kr) := by simp only [ltree_ref01_TakeUint_4, bind_cond, bind_none', bind_some', bind_bind', bind_sum, Sum.elim_inl, Sum.elim_inr]
theorem Le_ref01_TakeUint_4 (x1 : ByteArray) (x2 : Int) (x3 : Int) (x4 : Int) : L_ref01_TakeUint_4 (x1, (x2, (x3, (x4, ())))) () = ltree_ref01_TakeUint_4 F_ref01_PutUint x1 x2 x3 x4 L_ref01_TakeUint_4 some := runL_tree (A := LT_ref01_TakeUint_4) (B := LM_ref01_TakeUint_4) (R := LO_ref01_TakeUint_4) (fun a b kn kr => ltree_ref01_TakeUint_4 F_ref01_PutUint a.1 a.2.1 a.2.2.1 a.2.2.2.1 kn kr) (fun a b kn kr => nl_ref01_TakeUint_4 F_ref01_PutUint a.1 a.2.1 a.2.2.1 a.2.2.2.1 kn kr) (x1, (x2, (x3, (x4, ())))) ()
def tree_ref01_TakeUint (L_ref01_TakeUint_4 : LT_ref01_TakeUint_4 → LM_ref01_TakeUint_4 → Option LO_ref01_TakeUint_4) {α : Type} (x1 : ByteArray) (K : O_ref01_TakeUint → Option α) : Option α :=
  (L_ref01_TakeUint_4 (x1, 0, 1, 0, ()) ()).bind fun r1 =>
  Sum.elim (fun u2 =>
   K ((0, (ByteArray.empty, (false, ()))), ()))
  (fun u2 =>
   K ((u2.fst.fst, (u2.fst.snd.fst, (u2.fst.snd.snd.fst, ()))), ())) (r1)
noncomputable def F_ref01_TakeUint : A_ref01_TakeUint → M_ref01_TakeUint → Option O_ref01_TakeUint := fun a b => tree_ref01_TakeUint L_ref01_TakeUint_4 a.1 some
theorem n_ref01_TakeUint (L_ref01_TakeUint_4 : LT_ref01_TakeUint_4 → LM_ref01_TakeUint_4 → Option LO_ref01_TakeUint_4) (x1 : ByteArray) {α : Type} (K : O_ref01_TakeUint → Option α) : tree_ref01_TakeUint L_ref01_TakeUint_4 x1 K = (tree_ref01_TakeUint L_ref01_TakeUint_4 x1 some).bind K := by simp only [tree_ref01_TakeUint, bind_cond, bind_none', bind_some', bind_bind', bind_sum]
theorem Fe_ref01_TakeUint (x1 : ByteArray) : F_ref01_TakeUint (x1, ()) () = tree_ref01_TakeUint L_ref01_TakeUint_4 x1 some := rfl
def args_ref01_TakeNums : SkL := (.cons (.leaf .str) (.cons (.leaf (.int .i64)) .nil))
def mem_ref01_TakeNums : MSk := []
def outs_ref01_TakeNums : List OutC := [⟨(.tup (.cons (.leaf (.slc 22 (.cons (.int .u64) .nil))) (.cons (.leaf .str) (.cons (.leaf .bool) .nil)))), []⟩]
abbrev A_ref01_TakeNums : Type := (ByteArray × Int × Unit)
abbrev M_ref01_TakeNums : Type := Unit
abbrev O_ref01_TakeNums : Type := (List Int × ByteArray × Bool × Unit) × Unit
def ltmps_ref01_TakeNums_6 : SkL := (dz 7 (.cons (.leaf (.int .u64)) (.cons (.leaf .str) (.cons (.const .dead) (.cons (.const (.slw 510)) (.cons (.leaf (.int .u64)) (dz 42 .nil)))))))
def lmem_ref01_TakeNums_6 : MSk := [(510, .row 22 (.cons (.int .u64) .nil))]
def louts_ref01_TakeNums_6 : List OutL := [⟨.ret, (dz 4 (.cons (.const .nils) (.cons (.leaf .str) (.cons (.leaf .bool) (.cons (.const .dead) (.cons (.leaf .str) (.cons (.const .dead) (.cons (.const (.slw 510)) (dz 43 .nil))))))))), [(510, .row 22 (.cons (.int .u64) .nil))]⟩, ⟨(.exit 0), (dz 8 (.cons (.leaf .str) (.cons (.const .dead) (.cons (.const (.slw 510)) (dz 43 .nil))))), [(510, .row 22 (.cons (.int .u64) .nil))]⟩]
abbrev LT_ref01_TakeNums_6 : Type := (Int × ByteArray × Int × Unit)
abbrev LM_ref01_TakeNums_6 : Type := (List Int × Unit)
abbrev LO_ref01_TakeNums_6 : Type := ((ByteArray × Bool × ByteArray × Unit) × (List Int × Unit)) ⊕ ((ByteArray × Unit) × (List Int × Unit))
def ltree_ref01_TakeNums_6 (F_ref01_TakeUint : A_ref01_TakeUint → M_ref01_TakeUint → Option O_ref01_TakeUint) {α : Type} (x1 : Int) (x2 : ByteArray) (x3 : Int) (x4 : List Int) (kn : LT_ref01_TakeNums_6 → LM_ref01_TakeNums_6 → Option α) (kr : LO_ref01_TakeNums_6 → Option α) : Option α :=
  cond (decide (x3 < x1))
  ((F_ref01_TakeUint (x2, ()) ()).bind fun r1 =>
   cond (!r1.fst.snd.snd.fst)
   (kr (.inl ((ByteArray.empty, (false, (x2, ()))), (x4, ()))))
   (cond (decide ((x4.length + 1) * 8 ≤ 140737488355328))
    (kn (x1, (r1.fst.snd.fst, (IntKind.u64.wrap (x3 + 1), ()))) (x4 ++ ([] ++ [r1.fst.fst]), ()))
    (none)))
  (kr (.inr ((x2, ()), (x4, ()))))
noncomputable def L_ref01_TakeNums_6 : LT_ref01_TakeNums_6 → LM_ref01_TakeNums_6 → Option LO_ref01_TakeNums_6 := fun x y => runL (fun p => (fun (a : LT_ref01_TakeNums_6) (b : LM_ref01_TakeNums_6) => ltree_ref01_TakeNums_6 F_ref01_TakeUint a.1 a.2.1 a.2.2.1 b.1 (fun a' b' => some (.inl (a', b'))) fun r => some (.inr r)) p.1 p.2) (x, y)
theorem nl_ref01_TakeNums_6 (F_ref01_TakeUint : A_ref01_TakeUint → M_ref01_TakeUint → Option O_ref01_TakeUint) (x1 : Int) (x2 : ByteArray) (x3 : Int) (x4 : List Int) {α : Type} (kn : LT_ref01_TakeNums_6 → LM_ref01_TakeNums_6 → Option α) (kr : LO_ref01_TakeNums_6 → Option α) : ltree_ref01_TakeNums_6 F_ref01_TakeUint x1 x2 x3 x4 kn kr = (ltree_ref01_TakeNums_6 F_ref01_TakeUint x1 x2 x3 x4 (fun a b => some (.inl (a, b))) fun r => some (.inr r)).bind (Sum.elim (fun p : LT_ref01_TakeNums_6 × LM_ref01_TakeNums_6 => kn p.1 p.2) kr) := by simp only [ltree_ref01_TakeNums_6, bind_cond, bind_none', bind_some', bind_bind', bind_sum, Sum.elim_inl, Sum.elim_inr]
theorem Le_ref01_TakeNums_6 (x1 : Int) (x2 : ByteArray) (x3 : Int) (x4 : List Int) : L_ref01_TakeNums_6 (x1, (x2, (x3, ()))) (x4, ()) = ltree_ref01_TakeNums_6 F_ref01_TakeUint x1 x2 x3 x4 L_ref01_TakeNums_6 some := runL_tree (A := LT_ref01_TakeNums_6) (B := LM_ref01_TakeNums_6) (R := LO_ref01_TakeNums_6) (fun a b kn kr => ltree_ref01_TakeNums_6 F_ref01_TakeUint a.1 a.2.1 a.2.2.1 b.1 kn kr) (fun a b kn kr => nl_ref01_TakeNums_6 F_ref01_TakeUint a.1 a.2.1 a.2.2.1 b.1 kn kr) (x1, (x2, (x3, ()))) (x4, ())
def tree_ref01_TakeNums (F_ref01_TakeUint : A_ref01_TakeUint → M_ref01_TakeUint → Option O_ref01_TakeUint) (L_ref01_TakeNums_6 : LT_ref01_TakeNums_6 → LM_ref01_TakeNums_6 → Option LO_ref01_TakeNums_6) {α : Type} (x1 : ByteArray) (x2 : Int) (K : O_ref01_TakeNums → Option α) : Option α :=
  (F_ref01_TakeUint (x1, ()) ()).bind fun r1 =>
  cond (!r1.fst.snd.snd.fst)
  (K (([], (ByteArray.empty, (false, ()))), ()))
  (cond (decide (x2 < 0))
   (K (([], (ByteArray.empty, (false, ()))), ()))
   (cond (decide (r1.fst.fst > IntKind.u64.wrap x2))
    (K (([], (ByteArray.empty, (false, ()))), ()))
    ((L_ref01_TakeNums_6 (r1.fst.fst, r1.fst.snd.fst, 0, ()) ([], ())).bind fun r2 =>
     Sum.elim (fun u3 =>
      K (([], (u3.fst.fst, (u3.fst.snd.fst, ()))), ()))
     (fun u3 =>
      K ((u3.snd.fst, (u3.fst.fst, (true, ()))), ())) (r2))))
noncomputable def F_ref01_TakeNums : A_ref01_TakeNums → M_ref01_TakeNums → Option O_ref01_TakeNums := fun a b => tree_ref01_TakeNums F_ref01_TakeUint L_ref01_TakeNums_6 a.1 a.2.1 some
theorem n_ref01_TakeNums (F_ref01_TakeUint : A_ref01_TakeUint → M_ref01_TakeUint → Option O_ref01_TakeUint) (L_ref01_TakeNums_6 : LT_ref01_TakeNums_6 → LM_ref01_TakeNums_6 → Option LO_ref01_TakeNums_6) (x1 : ByteArray) (x2 : Int) {α : Type} (K : O_ref01_TakeNums → Option α) : tree_ref01_TakeNums F_ref01_TakeUint L_ref01_TakeNums_6 x1 x2 K = (tree_ref01_TakeNums F_ref01_TakeUint L_ref01_TakeNums_6 x1 x2 some).bind K := by simp only [tree_ref01_TakeNums, bind_cond, bind_none', bind_some', bind_bind', bind_sum]
theorem Fe_ref01_TakeNums (x1 : ByteArray) (x2 : Int) : F_ref01_TakeNums (x1, (x2, ())) () = tree_ref01_TakeNums F_ref01_TakeUint L_ref01_TakeNums_6 x1 x2 some := rfl
end Go.Proofs.Ytgakbdikappdbaa.S2
