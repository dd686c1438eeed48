/- Plain forms of the program's functions, by program. -/
import Derived.Test.YtgakbdikappdbaaGreatGwire
set_option maxRecDepth 100000
set_option maxHeartbeats 0
set_option linter.unusedVariables false
set_option linter.unusedSimpArgs false
namespace Go.Proofs.YtgakbdikappdbaaGreat.S2
open Go
def args_abi_NoEscape : SkL := (.cons (.const (.ptr 0 0 0)) .nil)
def mem_abi_NoEscape : MSk := [(0, .tcells 116 (.cons (.const .nilp) (.cons (.const .nils) .nil)))]
def outs_abi_NoEscape : List OutC := [⟨(.const (.ptr 0 0 0)), []⟩]
abbrev A_abi_NoEscape : Type := Unit
abbrev M_abi_NoEscape : Type := (Unit × Unit)
abbrev O_abi_NoEscape : Type := Unit × Unit
def F_abi_NoEscape : A_abi_NoEscape → M_abi_NoEscape → Option O_abi_NoEscape := fun a b => some ((), ())
def args_strings_Builder_copyCheck_v1 : SkL := (.cons (.const (.ptr 0 0 0)) .nil)
def mem_strings_Builder_copyCheck_v1 : MSk := [(0, .tcells 116 (.cons (.const .nilp) (.cons (.const .nils) .nil)))]
def outs_strings_Builder_copyCheck_v1 : List OutC := [⟨(.tup .nil), [(0, .tcells 116 (.cons (.const (.ptr 0 0 0)) (.cons (.const .nils) .nil)))]⟩]
abbrev A_strings_Builder_copyCheck_v1 : Type := Unit
abbrev M_strings_Builder_copyCheck_v1 : Type := (Unit × Unit)
abbrev O_strings_Builder_copyCheck_v1 : Type := Unit × (Unit × Unit)
def tree_strings_Builder_copyCheck_v1 (F_abi_NoEscape : A_abi_NoEscape → M_abi_NoEscape → Option O_abi_NoEscape) {α : Type} (K : O_strings_Builder_copyCheck_v1 → Option α) : Option α :=
  (F_abi_NoEscape () ((), ())).bind fun r1 =>
  K ((), ((), ()))
noncomputable def F_strings_Builder_copyCheck_v1 : A_strings_Builder_copyCheck_v1 → M_strings_Builder_copyCheck_v1 → Option O_strings_Builder_copyCheck_v1 := fun a b => tree_strings_Builder_copyCheck_v1 F_abi_NoEscape some
theorem n_strings_Builder_copyCheck_v1 (F_abi_NoEscape : A_abi_NoEscape → M_abi_NoEscape → Option O_abi_NoEscape) {α : Type} (K : O_strings_Builder_copyCheck_v1 → Option α) : tree_strings_Builder_copyCheck_v1 F_abi_NoEscape K = (tree_strings_Builder_copyCheck_v1 F_abi_NoEscape some).bind K := by simp only [tree_strings_Builder_copyCheck_v1, bind_cond, bind_none', bind_some', bind_bind', bind_sum]
def args_strings_Builder_copyCheck_v2 : SkL := (.cons (.const (.ptr 0 0 0)) .nil)
def mem_strings_Builder_copyCheck_v2 : MSk := [(0, .tcells 116 (.cons (.const (.ptr 0 0 0)) (.cons (.const (.slw 1)) .nil))), (1, .row 5 (.cons (.int .u8) .nil))]
def outs_strings_Builder_copyCheck_v2 : List OutC := [⟨(.tup .nil), [(0, .tcells 116 (.cons (.const (.ptr 0 0 0)) (.cons (.const (.slw 1)) .nil))), (1, .row 5 (.cons (.int .u8) .nil))]⟩]
abbrev A_strings_Builder_copyCheck_v2 : Type := Unit
abbrev M_strings_Builder_copyCheck_v2 : Type := (Unit × List Int × Unit)
abbrev O_strings_Builder_copyCheck_v2 : Type := Unit × (Unit × List Int × Unit)
def tree_strings_Builder_copyCheck_v2 {α : Type} (x1 : List Int) (K : O_strings_Builder_copyCheck_v2 → Option α) : Option α :=
  K ((), ((), (x1, ())))
noncomputable def F_strings_Builder_copyCheck_v2 : A_strings_Builder_copyCheck_v2 → M_strings_Builder_copyCheck_v2 → Option O_strings_Builder_copyCheck_v2 := fun a b => tree_strings_Builder_copyCheck_v2 b.2.1 some
theorem n_strings_Builder_copyCheck_v2 (x1 : List Int) {α : Type} (K : O_strings_Builder_copyCheck_v2 → Option α) : tree_strings_Builder_copyCheck_v2 x1 K = (tree_strings_Builder_copyCheck_v2 x1 some).bind K := by simp only [tree_strings_Builder_copyCheck_v2, bind_cond, bind_none', bind_some', bind_bind', bind_sum]
def args_strings_Builder_WriteString_v1 : SkL := (.cons (.const (.ptr 0 0 0)) (.cons (.leaf .str) .nil))
def mem_strings_Builder_WriteString_v1 : MSk := [(0, .tcells 116 (.cons (.const .nilp) (.cons (.const .nils) .nil)))]
def outs_strings_Builder_WriteString_v1 : List OutC := [⟨(.tup (.cons (.leaf (.int .i64)) (.cons (.const .nili) .nil))), [(0, .tcells 116 (.cons (.const (.ptr 0 0 0)) (.cons (.const (.slw 1)) .nil))), (1, .row 5 (.cons (.int .u8) .nil))]⟩]
abbrev A_strings_Builder_WriteString_v1 : Type := (ByteArray × Unit)
abbrev M_strings_Builder_WriteString_v1 : Type := (Unit × Unit)
abbrev O_strings_Builder_WriteString_v1 : Type := (Int × Unit) × (Unit × List Int × Unit)
def tree_strings_Builder_WriteString_v1 (F_strings_Builder_copyCheck_v1 : A_strings_Builder_copyCheck_v1 → M_strings_Builder_copyCheck_v1 → Option O_strings_Builder_copyCheck_v1) {α : Type} (x1 : ByteArray) (K : O_strings_Builder_WriteString_v1 → Option α) : Option α :=
  (F_strings_Builder_copyCheck_v1 () ((), ())).bind fun r1 =>
  cond (decide ((Go.Proofs.YtgakbdikappdbaaGreat.S2.numsOf x1).length * 1 ≤ 140737488355328))
  (K (((↑x1.size : Int), ()), ((), (Go.Proofs.YtgakbdikappdbaaGreat.S2.numsOf x1, ()))))
  (none)
noncomputable def F_strings_Builder_WriteString_v1 : A_strings_Builder_WriteString_v1 → M_strings_Builder_WriteString_v1 → Option O_strings_Builder_WriteString_v1 := fun a b => tree_strings_Builder_WriteString_v1 F_strings_Builder_copyCheck_v1 a.1 some
theorem n_strings_Builder_WriteString_v1 (F_strings_Builder_copyCheck_v1 : A_strings_Builder_copyCheck_v1 → M_strings_Builder_copyCheck_v1 → Option O_strings_Builder_copyCheck_v1) (x1 : ByteArray) {α : Type} (K : O_strings_Builder_WriteString_v1 → Option α) : tree_strings_Builder_WriteString_v1 F_strings_Builder_copyCheck_v1 x1 K = (tree_strings_Builder_WriteString_v1 F_strings_Builder_copyCheck_v1 x1 some).bind K := by simp only [tree_strings_Builder_WriteString_v1, bind_cond, bind_none', bind_some', bind_bind', bind_sum]
theorem Fe_strings_Builder_WriteString_v1 (x1 : ByteArray) : F_strings_Builder_WriteString_v1 (x1, ()) ((), ()) = tree_strings_Builder_WriteString_v1 F_strings_Builder_copyCheck_v1 x1 some := rfl
def args_strings_Builder_WriteString_v2 : SkL := (.cons (.const (.ptr 0 0 0)) (.cons (.leaf .str) .nil))
def mem_strings_Builder_WriteString_v2 : MSk := [(0, .tcells 116 (.cons (.const (.ptr 0 0 0)) (.cons (.const (.slw 1)) .nil))), (1, .row 5 (.cons (.int .u8) .nil))]
def outs_strings_Builder_WriteString_v2 : List OutC := [⟨(.tup (.cons (.leaf (.int .i64)) (.cons (.const .nili) .nil))), [(0, .tcells 116 (.cons (.const (.ptr 0 0 0)) (.cons (.const (.slw 2)) .nil))), (1, .gone), (2, .row 5 (.cons (.int .u8) .nil))]⟩]
abbrev A_strings_Builder_WriteString_v2 : Type := (ByteArray × Unit)
abbrev M_strings_Builder_WriteString_v2 : Type := (Unit × List Int × Unit)
abbrev O_strings_Builder_WriteString_v2 : Type := (Int × Unit) × (Unit × Unit × List Int × Unit)
def tree_strings_Builder_WriteString_v2 (F_strings_Builder_copyCheck_v2 : A_strings_Builder_copyCheck_v2 → M_strings_Builder_copyCheck_v2 → Option O_strings_Builder_copyCheck_v2) {α : Type} (x1 : ByteArray) (x2 : List Int) (K : O_strings_Builder_WriteString_v2 → Option α) : Option α :=
  (F_strings_Builder_copyCheck_v2 () ((), x2, ())).bind fun r1 =>
  cond (decide ((r1.snd.snd.fst.length + (Go.Proofs.YtgakbdikappdbaaGreat.S2.numsOf x1).length) * 1 ≤ 140737488355328))
  (K (((↑x1.size : Int), ()), ((), ((), (r1.snd.snd.fst ++ Go.Proofs.YtgakbdikappdbaaGreat.S2.numsOf x1, ())))))
  (none)
noncomputable def F_strings_Builder_WriteString_v2 : A_strings_Builder_WriteString_v2 → M_strings_Builder_WriteString_v2 → Option O_strings_Builder_WriteString_v2 := fun a b => tree_strings_Builder_WriteString_v2 F_strings_Builder_copyCheck_v2 a.1 b.2.1 some
theorem n_strings_Builder_WriteString_v2 (F_strings_Builder_copyCheck_v2 : A_strings_Builder_copyCheck_v2 → M_strings_Builder_copyCheck_v2 → Option O_strings_Builder_copyCheck_v2) (x1 : ByteArray) (x2 : List Int) {α : Type} (K : O_strings_Builder_WriteString_v2 → Option α) : tree_strings_Builder_WriteString_v2 F_strings_Builder_copyCheck_v2 x1 x2 K = (tree_strings_Builder_WriteString_v2 F_strings_Builder_copyCheck_v2 x1 x2 some).bind K := by simp only [tree_strings_Builder_WriteString_v2, bind_cond, bind_none', bind_some', bind_bind', bind_sum]
theorem Fe_strings_Builder_WriteString_v2 (x1 : ByteArray) (x2 : List Int) : F_strings_Builder_WriteString_v2 (x1, ()) ((), (x2, ())) = tree_strings_Builder_WriteString_v2 F_strings_Builder_copyCheck_v2 x1 x2 some := rfl
def args_strings_Builder_String : SkL := (.cons (.const (.ptr 0 0 0)) .nil)
def mem_strings_Builder_String : MSk := [(0, .tcells 116 (.cons (.const (.ptr 0 0 0)) (.cons (.const (.slw 1)) .nil))), (1, .row 5 (.cons (.int .u8) .nil))]
def outs_strings_Builder_String : List OutC := [⟨(.leaf .str), [(0, .tcells 116 (.cons (.const (.ptr 0 0 0)) (.cons (.const (.slw 1)) .nil))), (1, .gone)]⟩]
abbrev A_strings_Builder_String : Type := Unit
abbrev M_strings_Builder_String : Type := (Unit × List Int × Unit)
abbrev O_strings_Builder_String : Type := ByteArray × (Unit × Unit × Unit)
def tree_strings_Builder_String {α : Type} (x1 : List Int) (K : O_strings_Builder_String → Option α) : Option α :=
  cond (decide (0 < x1.length))
  (cond (decide (0 + x1.length ≤ x1.length))
   (cond (decide (0 < (↑x1.length : Int)))
    (cond (decide (0 + (↑x1.length : Int).toNat ≤ x1.length))
     (K (Go.strOfNums (List.take (↑x1.length : Int).toNat (List.drop 0 x1)), ((), ((), ()))))
     (none))
    (none))
   (none))
  (none)
noncomputable def F_strings_Builder_String : A_strings_Builder_String → M_strings_Builder_String → Option O_strings_Builder_String := fun a b => tree_strings_Builder_String b.2.1 some
theorem n_strings_Builder_String (x1 : List Int) {α : Type} (K : O_strings_Builder_String → Option α) : tree_strings_Builder_String x1 K = (tree_strings_Builder_String x1 some).bind K := by simp only [tree_strings_Builder_String, bind_cond, bind_none', bind_some', bind_bind', bind_sum]
theorem Fe_strings_Builder_String (x1 : List Int) : F_strings_Builder_String () ((), (x1, ())) = tree_strings_Builder_String x1 some := rfl
def args_wire_PutText : SkL := (.cons (.leaf .str) .nil)
def mem_wire_PutText : MSk := []
def outs_wire_PutText : List OutC := [⟨(.leaf .str), []⟩]
abbrev A_wire_PutText : Type := (ByteArray × Unit)
abbrev M_wire_PutText : Type := Unit
abbrev O_wire_PutText : Type := ByteArray × Unit
def tree_wire_PutText (F_wire_PutUint : A_wire_PutUint → M_wire_PutUint → Option O_wire_PutUint) {α : Type} (x1 : ByteArray) (K : O_wire_PutText → Option α) : Option α :=
  (F_wire_PutUint (IntKind.u64.wrap (↑x1.size : Int), ()) ()).bind fun r1 =>
  cond (decide (r1.fst.size + x1.size ≤ 9223372036854775807))
  (K (r1.fst ++ x1, ()))
  (none)
noncomputable def F_wire_PutText : A_wire_PutText → M_wire_PutText → Option O_wire_PutText := fun a b => tree_wire_PutText F_wire_PutUint a.1 some
theorem n_wire_PutText (F_wire_PutUint : A_wire_PutUint → M_wire_PutUint → Option O_wire_PutUint) (x1 : ByteArray) {α : Type} (K : O_wire_PutText → Option α) : tree_wire_PutText F_wire_PutUint x1 K = (tree_wire_PutText F_wire_PutUint x1 some).bind K := by simp only [tree_wire_PutText, bind_cond, bind_none', bind_some', bind_bind', bind_sum]
def args_wire_PutList : SkL := (.cons (.leaf (.slc 9 (.cons .str .nil))) .nil)
def mem_wire_PutList : MSk := []
def outs_wire_PutList : List OutC := [⟨(.leaf .str), []⟩]
abbrev A_wire_PutList : Type := (List ByteArray × Unit)
abbrev M_wire_PutList : Type := Unit
abbrev O_wire_PutList : Type := ByteArray × Unit
def ltmps_wire_PutList_4 : SkL := (dz 3 (.cons (.const (.ptr 1096 0 0)) (dz 7 (.cons (.leaf (.slc 9 (.cons .str .nil))) (.cons (.leaf (.int .i64)) (.cons (.leaf (.int .i64)) (dz 8 .nil)))))))
def lmem_wire_PutList_4 : MSk := [(600, .row 5 (.cons (.int .u8) .nil)), (1096, .tcells 116 (.cons (.const (.ptr 1096 0 0)) (.cons (.const (.slw 600)) .nil)))]
def louts_wire_PutList_4 : List OutL := [⟨(.exit 0), (dz 3 (.cons (.const (.ptr 1096 0 0)) (dz 18 .nil))), [(600, .row 5 (.cons (.int .u8) .nil)), (1096, .tcells 116 (.cons (.const (.ptr 1096 0 0)) (.cons (.const (.slw 600)) .nil)))]⟩]
abbrev LT_wire_PutList_4 : Type := (List ByteArray × Int × Int × Unit)
abbrev LM_wire_PutList_4 : Type := (List Int × Unit × Unit)
abbrev LO_wire_PutList_4 : Type := Unit × (List Int × Unit × Unit)
def ltree_wire_PutList_4 (F_strings_Builder_WriteString_v2 : A_strings_Builder_WriteString_v2 → M_strings_Builder_WriteString_v2 → Option O_strings_Builder_WriteString_v2) (F_wire_PutText : A_wire_PutText → M_wire_PutText → Option O_wire_PutText) {α : Type} (x1 : List ByteArray) (x2 : Int) (x3 : Int) (x4 : List Int) (kn : LT_wire_PutList_4 → LM_wire_PutList_4 → Option α) (kr : LO_wire_PutList_4 → Option α) : Option α :=
  cond (decide (x3 < x2))
  (cond (decide (0 ≤ x3))
   (cond (decide (x3 < (↑x1.length : Int)))
    ((F_wire_PutText (x1.getD x3.toNat ByteArray.empty, ()) ()).bind fun r1 =>
     (F_strings_Builder_WriteString_v2 (r1.fst, ()) ((), x4, ())).bind fun r2 =>
     kn (x1, (x2, (IntKind.i64.wrap (x3 + 1), ()))) (r2.snd.snd.snd.fst, ((), ())))
    (none))
   (none))
  (kr ((), (x4, ((), ()))))
noncomputable def L_wire_PutList_4 : LT_wire_PutList_4 → LM_wire_PutList_4 → Option LO_wire_PutList_4 := fun x y => runL (fun p => (fun (a : LT_wire_PutList_4) (b : LM_wire_PutList_4) => ltree_wire_PutList_4 F_strings_Builder_WriteString_v2 F_wire_PutText a.1 a.2.1 a.2.2.1 b.1 (fun a' b' => some (.inl (a', b'))) fun r => some (.inr r)) p.1 p.2) (x, y)
theorem nl_wire_PutList_4 (F_strings_Builder_WriteString_v2 : A_strings_Builder_WriteString_v2 → M_strings_Builder_WriteString_v2 → Option O_strings_Builder_WriteString_v2) (F_wire_PutText : A_wire_PutText → M_wire_PutText → Option O_wire_PutText) (x1 : List ByteArray) (x2 : Int) (x3 : Int) (x4 : List Int) {α : Type} (kn : LT_wire_PutList_4 → LM_wire_PutList_4 → Option α) (kr : LO_wire_PutList_4 → Option α) : ltree_wire_PutList_4 F_strings_Builder_WriteString_v2 F_wire_PutText x1 x2 x3 x4 kn kr = (ltree_wire_PutList_4 F_strings_Builder_WriteString_v2 F_wire_PutText x1 x2 x3 x4 (fun a b => some (.inl (a, b))) fun r => some (.inr r)).bind (Sum.elim (fun p : LT_wire_PutList_4 × LM_wire_PutList_4 => kn p.1 p.2) kr) := by simp only [ltree_wire_PutList_4, bind_cond, bind_none', bind_some', bind_bind', bind_sum, Sum.elim_inl, Sum.elim_inr]
theorem Le_wire_PutList_4 (x1 : List ByteArray) (x2 : Int) (x3 : Int) (x4 : List Int) : L_wire_PutList_4 (x1, (x2, (x3, ()))) (x4, ((), ())) = ltree_wire_PutList_4 F_strings_Builder_WriteString_v2 F_wire_PutText x1 x2 x3 x4 L_wire_PutList_4 some := runL_tree (A := LT_wire_PutList_4) (B := LM_wire_PutList_4) (R := LO_wire_PutList_4) (fun a b kn kr => ltree_wire_PutList_4 F_strings_Builder_WriteString_v2 F_wire_PutText a.1 a.2.1 a.2.2.1 b.1 kn kr) (fun a b kn kr => nl_wire_PutList_4 F_strings_Builder_WriteString_v2 F_wire_PutText a.1 a.2.1 a.2.2.1 b.1 kn kr) (x1, (x2, (x3, ()))) (x4, ((), ()))
def tree_wire_PutList (F_wire_PutUint : A_wire_PutUint → M_wire_PutUint → Option O_wire_PutUint) (F_strings_Builder_WriteString_v1 : A_strings_Builder_WriteString_v1 → M_strings_Builder_WriteString_v1 → Option O_strings_Builder_WriteString_v1) (F_strings_Builder_String : A_strings_Builder_String → M_strings_Builder_String → Option O_strings_Builder_String) (L_wire_PutList_4 : LT_wire_PutList_4 → LM_wire_PutList_4 → Option LO_wire_PutList_4) {α : Type} (x1 : List ByteArray) (K : O_wire_PutList → Option α) : Option α :=
  (F_wire_PutUint (IntKind.u64.wrap (↑x1.length : Int), ()) ()).bind fun r1 =>
  (F_strings_Builder_WriteString_v1 (r1.fst, ()) ((), ())).bind fun r2 =>
  (L_wire_PutList_4 (x1, (↑x1.length : Int), 0, ()) (r2.snd.snd.fst, (), ())).bind fun r3 =>
  (F_strings_Builder_String () ((), r3.snd.fst, ())).bind fun r4 =>
  K (r4.fst, ())
noncomputable def F_wire_PutList : A_wire_PutList → M_wire_PutList → Option O_wire_PutList := fun a b => tree_wire_PutList F_wire_PutUint F_strings_Builder_WriteString_v1 F_strings_Builder_String L_wire_PutList_4 a.1 some
theorem n_wire_PutList (F_wire_PutUint : A_wire_PutUint → M_wire_PutUint → Option O_wire_PutUint) (F_strings_Builder_WriteString_v1 : A_strings_Builder_WriteString_v1 → M_strings_Builder_WriteString_v1 → Option O_strings_Builder_WriteString_v1) (F_strings_Builder_String : A_strings_Builder_String → M_strings_Builder_String → Option O_strings_Builder_String) (L_wire_PutList_4 : LT_wire_PutList_4 → LM_wire_PutList_4 → Option LO_wire_PutList_4) (x1 : List ByteArray) {α : Type} (K : O_wire_PutList → Option α) : tree_wire_PutList F_wire_PutUint F_strings_Builder_WriteString_v1 F_strings_Builder_String L_wire_PutList_4 x1 K = (tree_wire_PutList F_wire_PutUint F_strings_Builder_WriteString_v1 F_strings_Builder_String L_wire_PutList_4 x1 some).bind K := by simp only [tree_wire_PutList, bind_cond, bind_none', bind_some', bind_bind', bind_sum]
theorem Fe_wire_PutList (x1 : List ByteArray) : F_wire_PutList (x1, ()) () = tree_wire_PutList F_wire_PutUint F_strings_Builder_WriteString_v1 F_strings_Builder_String L_wire_PutList_4 x1 some := rfl
end Go.Proofs.YtgakbdikappdbaaGreat.S2
