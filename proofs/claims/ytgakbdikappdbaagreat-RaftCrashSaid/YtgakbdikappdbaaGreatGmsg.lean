/- Plain forms of the program's functions, by program. -/
import Derived.Test.YtgakbdikappdbaaGreatGbld
set_option maxRecDepth 100000
set_option maxHeartbeats 0
set_option linter.unusedVariables false
set_option linter.unusedSimpArgs false
namespace Go.Proofs.YtgakbdikappdbaaGreat.S2
open Go
def args_msg_shapes : SkL := (.cons (.leaf (.int .i64)) .nil)
def mem_msg_shapes : MSk := []
def outs_msg_shapes : List OutC := [⟨(.tup (.cons (.agg (.cons (.leaf (.int .i64)) (.cons (.leaf (.int .i64)) (.cons (.leaf (.int .i64)) .nil)))) (.cons (.leaf .bool) .nil))), []⟩]
abbrev A_msg_shapes : Type := (Int × Unit)
abbrev M_msg_shapes : Type := Unit
abbrev O_msg_shapes : Type := ((Int × Int × Int × Unit) × Bool × Unit) × Unit
def F_msg_shapes : A_msg_shapes → M_msg_shapes → Option O_msg_shapes := fun a b => cond (a.1 == 0) (some (((4, (0, (0, ()))), (true, ())), ())) none
def args_msg_laid : SkL := (.cons (.agg (.cons (.leaf (.int .i64)) (.cons (.leaf (.slc 22 (.cons (.int .u64) .nil))) (.cons (.leaf (.slc 9 (.cons .str .nil))) .nil)))) .nil)
def mem_msg_laid : MSk := []
def outs_msg_laid : List OutC := [⟨(.leaf .str), []⟩]
abbrev A_msg_laid : Type := ((Int × List Int × List ByteArray × Unit) × Unit)
abbrev M_msg_laid : Type := Unit
abbrev O_msg_laid : Type := ByteArray × Unit
def ltmps_msg_laid_4 : SkL := (.cons (.const .dead) (.cons (.const (.ptr 1032 0 0)) (.cons (.const .dead) (.cons (.const (.ptr 1096 0 0)) (dz 8 (.cons (.leaf (.slc 22 (.cons (.int .u64) .nil))) (.cons (.leaf (.int .i64)) (.cons (.leaf (.int .i64)) (dz 12 .nil)))))))))
def lmem_msg_laid_4 : MSk := [(600, .row 5 (.cons (.int .u8) .nil)), (1032, .cells (.cons (.leaf (.int .i64)) (.cons (.leaf (.slc 22 (.cons (.int .u64) .nil))) (.cons (.leaf (.slc 9 (.cons .str .nil))) .nil)))), (1096, .tcells 116 (.cons (.const (.ptr 1096 0 0)) (.cons (.const (.slw 600)) .nil)))]
def louts_msg_laid_4 : List OutL := [⟨(.exit 0), (.cons (.const .dead) (.cons (.const (.ptr 1032 0 0)) (.cons (.const .dead) (.cons (.const (.ptr 1096 0 0)) (dz 23 .nil))))), [(600, .row 5 (.cons (.int .u8) .nil)), (1032, .cells (.cons (.leaf (.int .i64)) (.cons (.leaf (.slc 22 (.cons (.int .u64) .nil))) (.cons (.leaf (.slc 9 (.cons .str .nil))) .nil)))), (1096, .tcells 116 (.cons (.const (.ptr 1096 0 0)) (.cons (.const (.slw 600)) .nil)))]⟩]
abbrev LT_msg_laid_4 : Type := (List Int × Int × Int × Unit)
abbrev LM_msg_laid_4 : Type := (List Int × (Int × List Int × List ByteArray × Unit) × Unit × Unit)
abbrev LO_msg_laid_4 : Type := Unit × (List Int × (Int × List Int × List ByteArray × Unit) × Unit × Unit)
def ltree_msg_laid_4 (F_wire_PutUint : A_wire_PutUint → M_wire_PutUint → Option O_wire_PutUint) (F_strings_Builder_WriteString_v2 : A_strings_Builder_WriteString_v2 → M_strings_Builder_WriteString_v2 → Option O_strings_Builder_WriteString_v2) {α : Type} (x1 : List Int) (x2 : Int) (x3 : Int) (x4 : List Int) (x5 : Int) (x6 : List Int) (x7 : List ByteArray) (kn : LT_msg_laid_4 → LM_msg_laid_4 → Option α) (kr : LO_msg_laid_4 → Option α) : Option α :=
  cond (decide (x3 < x2))
  (cond (decide (0 ≤ x3))
   (cond (decide (x3 < (↑x1.length : Int)))
    ((F_wire_PutUint (x1.getD x3.toNat 0, ()) ()).bind fun r1 =>
     (F_strings_Builder_WriteString_v2 (r1.fst, ()) ((), x4, ())).bind fun r2 =>
     kn (x1, (x2, (IntKind.i64.wrap (x3 + 1), ()))) (r2.snd.snd.snd.fst, ((x5, (x6, (x7, ()))), ((), ()))))
    (none))
   (none))
  (kr ((), (x4, ((x5, (x6, (x7, ()))), ((), ())))))
noncomputable def L_msg_laid_4 : LT_msg_laid_4 → LM_msg_laid_4 → Option LO_msg_laid_4 := fun x y => runL (fun p => (fun (a : LT_msg_laid_4) (b : LM_msg_laid_4) => ltree_msg_laid_4 F_wire_PutUint F_strings_Builder_WriteString_v2 a.1 a.2.1 a.2.2.1 b.1 b.2.1.1 b.2.1.2.1 b.2.1.2.2.1 (fun a' b' => some (.inl (a', b'))) fun r => some (.inr r)) p.1 p.2) (x, y)
theorem nl_msg_laid_4 (F_wire_PutUint : A_wire_PutUint → M_wire_PutUint → Option O_wire_PutUint) (F_strings_Builder_WriteString_v2 : A_strings_Builder_WriteString_v2 → M_strings_Builder_WriteString_v2 → Option O_strings_Builder_WriteString_v2) (x1 : List Int) (x2 : Int) (x3 : Int) (x4 : List Int) (x5 : Int) (x6 : List Int) (x7 : List ByteArray) {α : Type} (kn : LT_msg_laid_4 → LM_msg_laid_4 → Option α) (kr : LO_msg_laid_4 → Option α) : ltree_msg_laid_4 F_wire_PutUint F_strings_Builder_WriteString_v2 x1 x2 x3 x4 x5 x6 x7 kn kr = (ltree_msg_laid_4 F_wire_PutUint F_strings_Builder_WriteString_v2 x1 x2 x3 x4 x5 x6 x7 (fun a b => some (.inl (a, b))) fun r => some (.inr r)).bind (Sum.elim (fun p : LT_msg_laid_4 × LM_msg_laid_4 => kn p.1 p.2) kr) := by simp only [ltree_msg_laid_4, bind_cond, bind_none', bind_some', bind_bind', bind_sum, Sum.elim_inl, Sum.elim_inr]
theorem Le_msg_laid_4 (x1 : List Int) (x2 : Int) (x3 : Int) (x4 : List Int) (x5 : Int) (x6 : List Int) (x7 : List ByteArray) : L_msg_laid_4 (x1, (x2, (x3, ()))) (x4, ((x5, (x6, (x7, ()))), ((), ()))) = ltree_msg_laid_4 F_wire_PutUint F_strings_Builder_WriteString_v2 x1 x2 x3 x4 x5 x6 x7 L_msg_laid_4 some := runL_tree (A := LT_msg_laid_4) (B := LM_msg_laid_4) (R := LO_msg_laid_4) (fun a b kn kr => ltree_msg_laid_4 F_wire_PutUint F_strings_Builder_WriteString_v2 a.1 a.2.1 a.2.2.1 b.1 b.2.1.1 b.2.1.2.1 b.2.1.2.2.1 kn kr) (fun a b kn kr => nl_msg_laid_4 F_wire_PutUint F_strings_Builder_WriteString_v2 a.1 a.2.1 a.2.2.1 b.1 b.2.1.1 b.2.1.2.1 b.2.1.2.2.1 kn kr) (x1, (x2, (x3, ()))) (x4, ((x5, (x6, (x7, ()))), ((), ())))
def tree_msg_laid (F_wire_PutUint : A_wire_PutUint → M_wire_PutUint → Option O_wire_PutUint) (F_strings_Builder_WriteString_v1 : A_strings_Builder_WriteString_v1 → M_strings_Builder_WriteString_v1 → Option O_strings_Builder_WriteString_v1) (F_strings_Builder_WriteString_v2 : A_strings_Builder_WriteString_v2 → M_strings_Builder_WriteString_v2 → Option O_strings_Builder_WriteString_v2) (F_wire_PutList : A_wire_PutList → M_wire_PutList → Option O_wire_PutList) (F_strings_Builder_String : A_strings_Builder_String → M_strings_Builder_String → Option O_strings_Builder_String) (L_msg_laid_4 : LT_msg_laid_4 → LM_msg_laid_4 → Option LO_msg_laid_4) {α : Type} (x1 : Int) (x2 : List Int) (x3 : List ByteArray) (K : O_msg_laid → Option α) : Option α :=
  (F_wire_PutUint (IntKind.u64.wrap x1, ()) ()).bind fun r1 =>
  (F_strings_Builder_WriteString_v1 (r1.fst, ()) ((), ())).bind fun r2 =>
  (L_msg_laid_4 (x2, (↑x2.length : Int), 0, ()) (r2.snd.snd.fst, (x1, x2, x3, ()), (), ())).bind fun r3 =>
  (F_wire_PutList (r3.snd.snd.fst.snd.snd.fst, ()) ()).bind fun r4 =>
  (F_strings_Builder_WriteString_v2 (r4.fst, ()) ((), r3.snd.fst, ())).bind fun r5 =>
  (F_strings_Builder_String () ((), r5.snd.snd.snd.fst, ())).bind fun r6 =>
  K (r6.fst, ())
noncomputable def F_msg_laid : A_msg_laid → M_msg_laid → Option O_msg_laid := fun a b => tree_msg_laid F_wire_PutUint F_strings_Builder_WriteString_v1 F_strings_Builder_WriteString_v2 F_wire_PutList F_strings_Builder_String L_msg_laid_4 a.1.1 a.1.2.1 a.1.2.2.1 some
theorem n_msg_laid (F_wire_PutUint : A_wire_PutUint → M_wire_PutUint → Option O_wire_PutUint) (F_strings_Builder_WriteString_v1 : A_strings_Builder_WriteString_v1 → M_strings_Builder_WriteString_v1 → Option O_strings_Builder_WriteString_v1) (F_strings_Builder_WriteString_v2 : A_strings_Builder_WriteString_v2 → M_strings_Builder_WriteString_v2 → Option O_strings_Builder_WriteString_v2) (F_wire_PutList : A_wire_PutList → M_wire_PutList → Option O_wire_PutList) (F_strings_Builder_String : A_strings_Builder_String → M_strings_Builder_String → Option O_strings_Builder_String) (L_msg_laid_4 : LT_msg_laid_4 → LM_msg_laid_4 → Option LO_msg_laid_4) (x1 : Int) (x2 : List Int) (x3 : List ByteArray) {α : Type} (K : O_msg_laid → Option α) : tree_msg_laid F_wire_PutUint F_strings_Builder_WriteString_v1 F_strings_Builder_WriteString_v2 F_wire_PutList F_strings_Builder_String L_msg_laid_4 x1 x2 x3 K = (tree_msg_laid F_wire_PutUint F_strings_Builder_WriteString_v1 F_strings_Builder_WriteString_v2 F_wire_PutList F_strings_Builder_String L_msg_laid_4 x1 x2 x3 some).bind K := by simp only [tree_msg_laid, bind_cond, bind_none', bind_some', bind_bind', bind_sum]
theorem Fe_msg_laid (x1 : Int) (x2 : List Int) (x3 : List ByteArray) : F_msg_laid ((x1, (x2, (x3, ()))), ()) () = tree_msg_laid F_wire_PutUint F_strings_Builder_WriteString_v1 F_strings_Builder_WriteString_v2 F_wire_PutList F_strings_Builder_String L_msg_laid_4 x1 x2 x3 some := rfl
def args_msg_Check : SkL := (.cons (.agg (.cons (.leaf (.int .i64)) (.cons (.leaf (.slc 22 (.cons (.int .u64) .nil))) (.cons (.leaf (.slc 9 (.cons .str .nil))) .nil)))) .nil)
def mem_msg_Check : MSk := []
def outs_msg_Check : List OutC := [⟨(.leaf (.int .i64)), []⟩]
abbrev A_msg_Check : Type := ((Int × List Int × List ByteArray × Unit) × Unit)
abbrev M_msg_Check : Type := Unit
abbrev O_msg_Check : Type := Int × Unit
def ltmps_msg_Check_8 : SkL := (.cons (.const .dead) (.cons (.const (.ptr 1032 0 0)) (dz 3 (.cons (.leaf (.int .i64)) (dz 33 (.cons (.leaf (.slc 9 (.cons .str .nil))) (.cons (.leaf (.int .i64)) (.cons (.leaf (.int .i64)) (dz 19 .nil)))))))))
def lmem_msg_Check_8 : MSk := [(1032, .cells (.cons (.leaf (.int .i64)) (.cons (.leaf (.slc 22 (.cons (.int .u64) .nil))) (.cons (.leaf (.slc 9 (.cons .str .nil))) .nil)))), (1096, .cells (.cons (.leaf (.int .i64)) (.cons (.leaf (.int .i64)) (.cons (.leaf (.int .i64)) .nil))))]
def louts_msg_Check_8 : List OutL := [⟨.ret, (.cons (.const .dead) (.cons (.const (.ptr 1032 0 0)) (.cons (.leaf (.int .i64)) (dz 2 (.cons (.leaf (.int .i64)) (dz 55 .nil)))))), [(1032, .cells (.cons (.leaf (.int .i64)) (.cons (.leaf (.slc 22 (.cons (.int .u64) .nil))) (.cons (.leaf (.slc 9 (.cons .str .nil))) .nil))))]⟩, ⟨(.exit 0), (.cons (.const .dead) (.cons (.const (.ptr 1032 0 0)) (dz 3 (.cons (.leaf (.int .i64)) (dz 55 .nil))))), [(1032, .cells (.cons (.leaf (.int .i64)) (.cons (.leaf (.slc 22 (.cons (.int .u64) .nil))) (.cons (.leaf (.slc 9 (.cons .str .nil))) .nil))))]⟩]
abbrev LT_msg_Check_8 : Type := (Int × List ByteArray × Int × Int × Unit)
abbrev LM_msg_Check_8 : Type := ((Int × List Int × List ByteArray × Unit) × (Int × Int × Int × Unit) × Unit)
abbrev LO_msg_Check_8 : Type := ((Int × Int × Unit) × ((Int × List Int × List ByteArray × Unit) × Unit)) ⊕ ((Int × Unit) × ((Int × List Int × List ByteArray × Unit) × Unit))
def ltree_msg_Check_8 {α : Type} (x1 : Int) (x2 : List ByteArray) (x3 : Int) (x4 : Int) (x5 : Int) (x6 : List Int) (x7 : List ByteArray) (x8 : Int) (x9 : Int) (x10 : Int) (kn : LT_msg_Check_8 → LM_msg_Check_8 → Option α) (kr : LO_msg_Check_8 → Option α) : Option α :=
  cond (decide (x4 < x3))
  (cond (decide (0 ≤ x4))
   (cond (decide (x4 < (↑x2.length : Int)))
    (cond (decide ((↑(x2.getD x4.toNat ByteArray.empty).size : Int) > 65536))
     (kr (.inl ((22, (x1, ())), ((x5, (x6, (x7, ()))), ()))))
     (kn (IntKind.i64.wrap (x1 + (↑(x2.getD x4.toNat ByteArray.empty).size : Int)), (x2, (x3, (IntKind.i64.wrap (x4 + 1), ())))) ((x5, (x6, (x7, ()))), ((x8, (x9, (x10, ()))), ()))))
    (none))
   (none))
  (kr (.inr ((x1, ()), ((x5, (x6, (x7, ()))), ()))))
noncomputable def L_msg_Check_8 : LT_msg_Check_8 → LM_msg_Check_8 → Option LO_msg_Check_8 := fun x y => runL (fun p => (fun (a : LT_msg_Check_8) (b : LM_msg_Check_8) => ltree_msg_Check_8 a.1 a.2.1 a.2.2.1 a.2.2.2.1 b.1.1 b.1.2.1 b.1.2.2.1 b.2.1.1 b.2.1.2.1 b.2.1.2.2.1 (fun a' b' => some (.inl (a', b'))) fun r => some (.inr r)) p.1 p.2) (x, y)
theorem nl_msg_Check_8 (x1 : Int) (x2 : List ByteArray) (x3 : Int) (x4 : Int) (x5 : Int) (x6 : List Int) (x7 : List ByteArray) (x8 : Int) (x9 : Int) (x10 : Int) {α : Type} (kn : LT_msg_Check_8 → LM_msg_Check_8 → Option α) (kr : LO_msg_Check_8 → Option α) : ltree_msg_Check_8 x1 x2 x3 x4 x5 x6 x7 x8 x9 x10 kn kr = (ltree_msg_Check_8 x1 x2 x3 x4 x5 x6 x7 x8 x9 x10 (fun a b => some (.inl (a, b))) fun r => some (.inr r)).bind (Sum.elim (fun p : LT_msg_Check_8 × LM_msg_Check_8 => kn p.1 p.2) kr) := by simp only [ltree_msg_Check_8, bind_cond, bind_none', bind_some', bind_bind', bind_sum, Sum.elim_inl, Sum.elim_inr]
theorem Le_msg_Check_8 (x1 : Int) (x2 : List ByteArray) (x3 : Int) (x4 : Int) (x5 : Int) (x6 : List Int) (x7 : List ByteArray) (x8 : Int) (x9 : Int) (x10 : Int) : L_msg_Check_8 (x1, (x2, (x3, (x4, ())))) ((x5, (x6, (x7, ()))), ((x8, (x9, (x10, ()))), ())) = ltree_msg_Check_8 x1 x2 x3 x4 x5 x6 x7 x8 x9 x10 L_msg_Check_8 some := runL_tree (A := LT_msg_Check_8) (B := LM_msg_Check_8) (R := LO_msg_Check_8) (fun a b kn kr => ltree_msg_Check_8 a.1 a.2.1 a.2.2.1 a.2.2.2.1 b.1.1 b.1.2.1 b.1.2.2.1 b.2.1.1 b.2.1.2.1 b.2.1.2.2.1 kn kr) (fun a b kn kr => nl_msg_Check_8 a.1 a.2.1 a.2.2.1 a.2.2.2.1 b.1.1 b.1.2.1 b.1.2.2.1 b.2.1.1 b.2.1.2.1 b.2.1.2.2.1 kn kr) (x1, (x2, (x3, (x4, ())))) ((x5, (x6, (x7, ()))), ((x8, (x9, (x10, ()))), ()))
def tree_msg_Check (F_msg_shapes : A_msg_shapes → M_msg_shapes → Option O_msg_shapes) (F_msg_laid : A_msg_laid → M_msg_laid → Option O_msg_laid) (L_msg_Check_8 : LT_msg_Check_8 → LM_msg_Check_8 → Option LO_msg_Check_8) {α : Type} (x1 : Int) (x2 : List Int) (x3 : List ByteArray) (K : O_msg_Check → Option α) : Option α :=
  (F_msg_shapes (x1, ()) ()).bind fun r1 =>
  cond (!r1.fst.snd.fst)
  (K (20, ()))
  (cond ((↑x2.length : Int) != r1.fst.fst.fst)
   (K (21, ()))
   (cond (decide ((↑x3.length : Int) < r1.fst.fst.snd.fst))
    (K (21, ()))
    (cond (decide ((↑x3.length : Int) > r1.fst.fst.snd.snd.fst))
     (K (21, ()))
     ((L_msg_Check_8 (0, x3, (↑x3.length : Int), 0, ())   ((x1, x2, x3, ()), (r1.fst.fst.fst, r1.fst.fst.snd.fst, r1.fst.fst.snd.snd.fst, ()), ())).bind fun r2 =>
      Sum.elim (fun u3 =>
       K (u3.fst.fst, ()))
      (fun u3 =>
       cond (decide (u3.fst.fst > 65536))
       (K (22, ()))
       ((F_msg_laid ((u3.snd.fst.fst, u3.snd.fst.snd.fst, u3.snd.fst.snd.snd.fst, ()), ()) ()).bind fun r4 =>
        cond (decide ((↑r4.fst.size : Int) > 65536))
        (K (22, ()))
        (K (0, ())))) (r2)))))
noncomputable def F_msg_Check : A_msg_Check → M_msg_Check → Option O_msg_Check := fun a b => tree_msg_Check F_msg_shapes F_msg_laid L_msg_Check_8 a.1.1 a.1.2.1 a.1.2.2.1 some
theorem n_msg_Check (F_msg_shapes : A_msg_shapes → M_msg_shapes → Option O_msg_shapes) (F_msg_laid : A_msg_laid → M_msg_laid → Option O_msg_laid) (L_msg_Check_8 : LT_msg_Check_8 → LM_msg_Check_8 → Option LO_msg_Check_8) (x1 : Int) (x2 : List Int) (x3 : List ByteArray) {α : Type} (K : O_msg_Check → Option α) : tree_msg_Check F_msg_shapes F_msg_laid L_msg_Check_8 x1 x2 x3 K = (tree_msg_Check F_msg_shapes F_msg_laid L_msg_Check_8 x1 x2 x3 some).bind K := by simp only [tree_msg_Check, bind_cond, bind_none', bind_some', bind_bind', bind_sum]
theorem Fe_msg_Check (x1 : Int) (x2 : List Int) (x3 : List ByteArray) : F_msg_Check ((x1, (x2, (x3, ()))), ()) () = tree_msg_Check F_msg_shapes F_msg_laid L_msg_Check_8 x1 x2 x3 some := rfl
end Go.Proofs.YtgakbdikappdbaaGreat.S2
