/- Plain forms of the program's functions, by program. -/
import Derived.Test.YtlfedmjjjbhnpaaGdisk
set_option maxRecDepth 100000
set_option maxHeartbeats 0
set_option linter.unusedVariables false
set_option linter.unusedSimpArgs false
namespace Go.Proofs.Ytlfedmjjjbhnpaa.S2
open Go
/-! (*countersign/countersignref08.Disk).Read -/
def args_ref08_Disk_Read : SkL := (.cons (.const (.ptr 0 0 0)) (.cons (.leaf (.int .i64)) .nil))
def mem_ref08_Disk_Read : MSk := [(0, .cells (.cons (.leaf (.int .i64)) (.cons (.const (.slw 1)) (.cons (.const (.slw 2)) .nil)))), (1, .row 9 (.cons .str .nil)), (2, .row 114 (.cons (.int .i64) (.cons (.int .i64) (.cons .str (.cons (.slc 3 (.cons (.int .i64) .nil)) .nil)))))]
def outs_ref08_Disk_Read : List OutC := [⟨(.tup (.cons (.leaf .str) (.cons (.leaf .bool) .nil))), []⟩]
abbrev A_ref08_Disk_Read : Type := (Int × Unit)
abbrev M_ref08_Disk_Read : Type := ((Int × Unit) × List ByteArray × (List (Int × Int × ByteArray × List Int)) × Unit)
abbrev O_ref08_Disk_Read : Type := (ByteArray × Bool × Unit) × Unit
def ltmps_ref08_Disk_Read_5 : SkL := (.cons (.const (.ptr 0 0 0)) (.cons (.leaf (.int .i64)) (.cons (.const .dead) (.cons (.const .dead) (.cons (.const .dead) (.cons (.const .dead) (.cons (.leaf .str) (.cons (.leaf (.int .i64)) (.cons (.const .dead) (.cons (.const .dead) (.cons (.const .dead) (.cons (.const .dead) (.cons (.const .dead) (.cons (.const .dead) (.cons (.const .dead) (.cons (.const .dead) (.cons (.const .dead) (.cons (.const .dead) (.cons (.const .dead) (.cons (.const .dead) (.cons (.const .dead) (.cons (.const .dead) (.cons (.const .dead) (.cons (.const .dead) (.cons (.const .dead) (.cons (.const .dead) (.cons (.const .dead) (.cons (.const .dead) (.cons (.const .dead) (.cons (.const .dead) (.cons (.const .dead) (.cons (.const .dead) (.cons (.const .dead) (.cons (.const .dead) (.cons (.const .dead) (.cons (.const .dead) (.cons (.const .dead) (.cons (.const .dead) (.cons (.const .dead) (.cons (.const .dead) (.cons (.const .dead) (.cons (.const .dead) (.cons (.const .dead) (.cons (.const .dead) (.cons (.const .dead) (.cons (.const .dead) (.cons (.const .dead) (.cons (.const .dead) (.cons (.const .dead) (.cons (.const .dead) (.cons (.const .dead) (.cons (.const .dead) (.cons (.const .dead) (.cons (.const .dead) .nil))))))))))))))))))))))))))))))))))))))))))))))))))))))
def lmem_ref08_Disk_Read_5 : MSk := [(0, .cells (.cons (.leaf (.int .i64)) (.cons (.const (.slw 1)) (.cons (.const (.slw 2)) .nil)))), (1, .row 9 (.cons .str .nil)), (2, .row 114 (.cons (.int .i64) (.cons (.int .i64) (.cons .str (.cons (.slc 3 (.cons (.int .i64) .nil)) .nil)))))]
def louts_ref08_Disk_Read_5 : List OutL := [⟨(.exit 0), (.cons (.const .dead) (.cons (.const .dead) (.cons (.const .dead) (.cons (.const .dead) (.cons (.const .dead) (.cons (.const .dead) (.cons (.leaf .str) (.cons (.const .dead) (.cons (.const .dead) (.cons (.const .dead) (.cons (.const .dead) (.cons (.const .dead) (.cons (.const .dead) (.cons (.const .dead) (.cons (.const .dead) (.cons (.const .dead) (.cons (.const .dead) (.cons (.const .dead) (.cons (.const .dead) (.cons (.const .dead) (.cons (.const .dead) (.cons (.const .dead) (.cons (.const .dead) (.cons (.const .dead) (.cons (.const .dead) (.cons (.const .dead) (.cons (.const .dead) (.cons (.const .dead) (.cons (.const .dead) (.cons (.const .dead) (.cons (.const .dead) (.cons (.const .dead) (.cons (.const .dead) (.cons (.const .dead) (.cons (.const .dead) (.cons (.const .dead) (.cons (.const .dead) (.cons (.const .dead) (.cons (.const .dead) (.cons (.const .dead) (.cons (.const .dead) (.cons (.const .dead) (.cons (.const .dead) (.cons (.const .dead) (.cons (.const .dead) (.cons (.const .dead) (.cons (.const .dead) (.cons (.const .dead) (.cons (.const .dead) (.cons (.const .dead) (.cons (.const .dead) (.cons (.const .dead) (.cons (.const .dead) (.cons (.const .dead) .nil)))))))))))))))))))))))))))))))))))))))))))))))))))))), [(0, .cells (.cons (.leaf (.int .i64)) (.cons (.const (.slw 1)) (.cons (.const (.slw 2)) .nil)))), (1, .row 9 (.cons .str .nil)), (2, .row 114 (.cons (.int .i64) (.cons (.int .i64) (.cons .str (.cons (.slc 3 (.cons (.int .i64) .nil)) .nil)))))]⟩]
abbrev LT_ref08_Disk_Read_5 : Type := (Int × ByteArray × Int × Unit)
abbrev LM_ref08_Disk_Read_5 : Type := ((Int × Unit) × List ByteArray × (List (Int × Int × ByteArray × List Int)) × Unit)
abbrev LO_ref08_Disk_Read_5 : Type := (ByteArray × Unit) × ((Int × Unit) × List ByteArray × (List (Int × Int × ByteArray × List Int)) × Unit)
def ltree_ref08_Disk_Read_5 {α : Type} (x1 : Int) (x2 : ByteArray) (x3 : Int) (x4 : Int) (x5 : List ByteArray) (x6 : List (Int × Int × ByteArray × List Int)) (kn : LT_ref08_Disk_Read_5 → LM_ref08_Disk_Read_5 → Option α) (kr : LO_ref08_Disk_Read_5 → Option α) : Option α :=
  cond (decide (x3 < (↑x6.length : Int)))
  (cond (decide (0 ≤ x3))
   (cond (decide (x3 < (↑x6.length : Int)))
    (cond ((x6.getD (0 + x3.toNat) (0, 0, ByteArray.empty, [])).snd.fst == x1)
     (cond (decide (0 ≤ x3))
      (cond (decide (x3 < (↑x6.length : Int)))
       (kn (x1, ((x6.getD (0 + x3.toNat) (0, 0, ByteArray.empty, [])).snd.snd.fst, (IntKind.i64.wrap (x3 + 1), ()))) ((x4, ()), (x5, (x6, ()))))
       (none))
      (none))
     (kn (x1, (x2, (IntKind.i64.wrap (x3 + 1), ()))) ((x4, ()), (x5, (x6, ())))))
    (none))
   (none))
  (kr ((x2, ()), ((x4, ()), (x5, (x6, ())))))
noncomputable def L_ref08_Disk_Read_5 : LT_ref08_Disk_Read_5 → LM_ref08_Disk_Read_5 → Option LO_ref08_Disk_Read_5 := fun x y => runL (fun p => (fun (a : LT_ref08_Disk_Read_5) (b : LM_ref08_Disk_Read_5) => ltree_ref08_Disk_Read_5 a.1 a.2.1 a.2.2.1 b.1.1 b.2.1 b.2.2.1 (fun a' b' => some (.inl (a', b'))) fun r => some (.inr r)) p.1 p.2) (x, y)
theorem nl_ref08_Disk_Read_5 (x1 : Int) (x2 : ByteArray) (x3 : Int) (x4 : Int) (x5 : List ByteArray) (x6 : List (Int × Int × ByteArray × List Int)) {α : Type} (kn : LT_ref08_Disk_Read_5 → LM_ref08_Disk_Read_5 → Option α) (kr : LO_ref08_Disk_Read_5 → Option α) : ltree_ref08_Disk_Read_5 x1 x2 x3 x4 x5 x6 kn kr = (ltree_ref08_Disk_Read_5 x1 x2 x3 x4 x5 x6 (fun a b => some (.inl (a, b))) fun r => some (.inr r)).bind (Sum.elim (fun p : LT_ref08_Disk_Read_5 × LM_ref08_Disk_Read_5 => kn p.1 p.2) kr) := by simp only [ltree_ref08_Disk_Read_5, bind_cond, bind_none', bind_some', bind_bind', bind_sum, Sum.elim_inl, Sum.elim_inr]
theorem Le_ref08_Disk_Read_5 (x1 : Int) (x2 : ByteArray) (x3 : Int) (x4 : Int) (x5 : List ByteArray) (x6 : List (Int × Int × ByteArray × List Int)) : L_ref08_Disk_Read_5 (x1, (x2, (x3, ()))) ((x4, ()), (x5, (x6, ()))) = ltree_ref08_Disk_Read_5 x1 x2 x3 x4 x5 x6 L_ref08_Disk_Read_5 some := runL_tree (A := LT_ref08_Disk_Read_5) (B := LM_ref08_Disk_Read_5) (R := LO_ref08_Disk_Read_5) (fun a b kn kr => ltree_ref08_Disk_Read_5 a.1 a.2.1 a.2.2.1 b.1.1 b.2.1 b.2.2.1 kn kr) (fun a b kn kr => nl_ref08_Disk_Read_5 a.1 a.2.1 a.2.2.1 b.1.1 b.2.1 b.2.2.1 kn kr) (x1, (x2, (x3, ()))) ((x4, ()), (x5, (x6, ())))
def routs_ref08_Disk_Read : List OutC := [⟨(.tup (.cons (.leaf .str) (.cons (.leaf .bool) .nil))), [(0, .cells (.cons (.leaf (.int .i64)) (.cons (.const (.slw 1)) (.cons (.const (.slw 2)) .nil)))), (1, .row 9 (.cons .str .nil)), (2, .row 114 (.cons (.int .i64) (.cons (.int .i64) (.cons .str (.cons (.slc 3 (.cons (.int .i64) .nil)) .nil)))))]⟩]
abbrev RO_ref08_Disk_Read : Type := (ByteArray × Bool × Unit) × ((Int × Unit) × List ByteArray × (List (Int × Int × ByteArray × List Int)) × Unit)
def tree_ref08_Disk_Read (L_ref08_Disk_Read_5 : LT_ref08_Disk_Read_5 → LM_ref08_Disk_Read_5 → Option LO_ref08_Disk_Read_5) {α : Type} (x1 : Int) (x2 : Int) (x3 : List ByteArray) (x4 : List (Int × Int × ByteArray × List Int)) (K : RO_ref08_Disk_Read → Option α) : Option α :=
  cond (decide (x1 < 0))
  (K ((ByteArray.empty, (false, ())), ((x2, ()), (x3, (x4, ())))))
  (cond (decide (x1 ≥ (↑x3.length : Int)))
   (K ((ByteArray.empty, (false, ())), ((x2, ()), (x3, (x4, ())))))
   (cond (decide (0 ≤ x1))
    (cond (decide (x1 < (↑x3.length : Int)))
     ((L_ref08_Disk_Read_5 (x1, x3.getD (0 + x1.toNat) ByteArray.empty, 0, ()) ((x2, ()), x3, x4, ())).bind fun r1 =>
      K ((r1.fst.fst, (true, ())), ((r1.snd.fst.fst, ()), (r1.snd.snd.fst, (r1.snd.snd.snd.fst, ())))))
     (none))
    (none)))
noncomputable def R_ref08_Disk_Read : A_ref08_Disk_Read → M_ref08_Disk_Read → Option RO_ref08_Disk_Read := fun a b => tree_ref08_Disk_Read L_ref08_Disk_Read_5 a.1 b.1.1 b.2.1 b.2.2.1 some
theorem lr_ref08_Disk_Read_5 (x : LT_ref08_Disk_Read_5) (y : LM_ref08_Disk_Read_5) : Leaf (fun r : LO_ref08_Disk_Read_5 => ((fun r => r.2 = y) : LO_ref08_Disk_Read_5 → Prop) r) (L_ref08_Disk_Read_5 x y) := by
  refine leaf_loop (fun s => s.2 = y) (fun s hs => ?_) rfl
  obtain ⟨a, b⟩ := s
  cases hs
  dsimp only
  unfold ltree_ref08_Disk_Read_5
  repeat (first | (with_reducible refine leaf_bind fun _ => ?_) | (with_reducible apply leaf_cond) | (with_reducible refine leaf_sum (fun _ => ?_) (fun _ => ?_)) | (with_reducible exact leaf_none) | exact leaf_some rfl)
theorem reads_ref08_Disk_Read (a : A_ref08_Disk_Read) (b : M_ref08_Disk_Read) : Leaf (fun r : RO_ref08_Disk_Read => r.2 = b) (R_ref08_Disk_Read a b) := by
  show Leaf _ (tree_ref08_Disk_Read L_ref08_Disk_Read_5 a.1 b.1.1 b.2.1 b.2.2.1 some)
  unfold tree_ref08_Disk_Read
  repeat (first | ((with_reducible refine leaf_bindL (lr_ref08_Disk_Read_5 _ _) fun r hr => ?_); first | (rcases r with r | r <;> (have hr : r.2 = _ := hr; obtain ⟨r1, r2⟩ := r; cases hr; simp only [Sum.elim_inl, Sum.elim_inr])) | (have hr : r.2 = _ := hr; obtain ⟨r1, r2⟩ := r; cases hr)) | (with_reducible refine leaf_bind fun _ => ?_) | (with_reducible apply leaf_cond) | (with_reducible refine leaf_sum (fun _ => ?_) (fun _ => ?_)) | (with_reducible exact leaf_none) | exact leaf_some rfl)
noncomputable def F_ref08_Disk_Read : A_ref08_Disk_Read → M_ref08_Disk_Read → Option O_ref08_Disk_Read := fun a b => (R_ref08_Disk_Read a b).map fun r => (r.1, ())
theorem n_ref08_Disk_Read (L_ref08_Disk_Read_5 : LT_ref08_Disk_Read_5 → LM_ref08_Disk_Read_5 → Option LO_ref08_Disk_Read_5) (x1 : Int) (x2 : Int) (x3 : List ByteArray) (x4 : List (Int × Int × ByteArray × List Int)) {α : Type} (K : RO_ref08_Disk_Read → Option α) : tree_ref08_Disk_Read L_ref08_Disk_Read_5 x1 x2 x3 x4 K = (tree_ref08_Disk_Read L_ref08_Disk_Read_5 x1 x2 x3 x4 some).bind K := by simp only [tree_ref08_Disk_Read, bind_cond, bind_none', bind_some', bind_bind', bind_sum]
theorem Fe_ref08_Disk_Read (x1 : Int) (x2 : Int) (x3 : List ByteArray) (x4 : List (Int × Int × ByteArray × List Int)) : F_ref08_Disk_Read (x1, ()) ((x2, ()), (x3, (x4, ()))) = (tree_ref08_Disk_Read L_ref08_Disk_Read_5 x1 x2 x3 x4 some).map fun r => (r.1, ()) := rfl

/-! countersign/countersignref08.New -/
def args_ref08_New : SkL := (.cons (.leaf (.int .i64)) (.cons (.leaf (.int .i64)) .nil))
def mem_ref08_New : MSk := []
def outs_ref08_New : List OutC := [⟨(.tup (.cons (.const .nilp) (.cons (.const (.bool Bool.false)) .nil))), []⟩, ⟨(.tup (.cons (.const (.ptr 0 0 0)) (.cons (.const (.bool Bool.true)) .nil))), [(0, .cells (.cons (.leaf (.int .i64)) (.cons (.const (.slw 1)) (.cons (.const (.slw 2)) .nil)))), (1, .row 9 (.cons .str .nil)), (2, .row 114 (.cons (.int .i64) (.cons (.int .i64) (.cons .str (.cons (.slc 3 (.cons (.int .i64) .nil)) .nil)))))]⟩]
abbrev A_ref08_New : Type := (Int × Int × Unit)
abbrev M_ref08_New : Type := Unit
abbrev O_ref08_New : Type := (Unit × Unit) ⊕ (Unit × ((Int × Unit) × List ByteArray × (List (Int × Int × ByteArray × List Int)) × Unit))
def ltmps_ref08_New_5 : SkL := (.cons (.leaf (.int .i64)) (.cons (.leaf (.int .i64)) (.cons (.const .dead) (.cons (.const .dead) (.cons (.const .dead) (.cons (.const .dead) (.cons (.const (.ptr 1768 0 0)) (.cons (.leaf (.int .i64)) (.cons (.const .dead) (.cons (.const .dead) (.cons (.const .dead) (.cons (.const .dead) (.cons (.const .dead) (.cons (.const .dead) (.cons (.const .dead) (.cons (.const .dead) (.cons (.const .dead) (.cons (.const .dead) (.cons (.const .dead) (.cons (.const .dead) (.cons (.const .dead) (.cons (.const .dead) (.cons (.const .dead) (.cons (.const .dead) (.cons (.const .dead) (.cons (.const .dead) (.cons (.const .dead) (.cons (.const .dead) (.cons (.const .dead) (.cons (.const .dead) (.cons (.const .dead) (.cons (.const .dead) (.cons (.const .dead) (.cons (.const .dead) (.cons (.const .dead) (.cons (.const .dead) (.cons (.const .dead) (.cons (.const .dead) (.cons (.const .dead) (.cons (.const .dead) (.cons (.const .dead) (.cons (.const .dead) .nil))))))))))))))))))))))))))))))))))))))))))
def lmem_ref08_New_5 : MSk := [(501, .row 9 (.cons .str .nil)), (1768, .cells (.cons (.leaf (.int .i64)) (.cons (.const (.slw 501)) (.cons (.const .nils) .nil))))]
def louts_ref08_New_5 : List OutL := [⟨(.exit 0), (.cons (.const .dead) (.cons (.const .dead) (.cons (.const .dead) (.cons (.const .dead) (.cons (.const .dead) (.cons (.const .dead) (.cons (.const (.ptr 1768 0 0)) (.cons (.const .dead) (.cons (.const .dead) (.cons (.const .dead) (.cons (.const .dead) (.cons (.const .dead) (.cons (.const .dead) (.cons (.const .dead) (.cons (.const .dead) (.cons (.const .dead) (.cons (.const .dead) (.cons (.const .dead) (.cons (.const .dead) (.cons (.const .dead) (.cons (.const .dead) (.cons (.const .dead) (.cons (.const .dead) (.cons (.const .dead) (.cons (.const .dead) (.cons (.const .dead) (.cons (.const .dead) (.cons (.const .dead) (.cons (.const .dead) (.cons (.const .dead) (.cons (.const .dead) (.cons (.const .dead) (.cons (.const .dead) (.cons (.const .dead) (.cons (.const .dead) (.cons (.const .dead) (.cons (.const .dead) (.cons (.const .dead) (.cons (.const .dead) (.cons (.const .dead) (.cons (.const .dead) (.cons (.const .dead) .nil)))))))))))))))))))))))))))))))))))))))))), [(501, .row 9 (.cons .str .nil)), (1768, .cells (.cons (.leaf (.int .i64)) (.cons (.const (.slw 501)) (.cons (.const .nils) .nil))))]⟩]
abbrev LT_ref08_New_5 : Type := (Int × Int × Int × Unit)
abbrev LM_ref08_New_5 : Type := (List ByteArray × (Int × Unit) × Unit)
abbrev LO_ref08_New_5 : Type := Unit × (List ByteArray × (Int × Unit) × Unit)
def ltree_ref08_New_5 (F_ref08_Zeros : A_ref08_Zeros → M_ref08_Zeros → Option O_ref08_Zeros) {α : Type} (x1 : Int) (x2 : Int) (x3 : Int) (x4 : List ByteArray) (x5 : Int) (kn : LT_ref08_New_5 → LM_ref08_New_5 → Option α) (kr : LO_ref08_New_5 → Option α) : Option α :=
  cond (decide (x3 < x1))
  ((F_ref08_Zeros (x2, ()) ()).bind fun r1 =>
   cond (decide ((x4.length + 1) * 16 ≤ 140737488355328))
   (kn (x1, (x2, (IntKind.i64.wrap (x3 + 1), ()))) (x4 ++ ([] ++ [r1.fst]), ((x5, ()), ())))
   (none))
  (kr ((), (x4, ((x5, ()), ()))))
noncomputable def L_ref08_New_5 : LT_ref08_New_5 → LM_ref08_New_5 → Option LO_ref08_New_5 := fun x y => runL (fun p => (fun (a : LT_ref08_New_5) (b : LM_ref08_New_5) => ltree_ref08_New_5 F_ref08_Zeros a.1 a.2.1 a.2.2.1 b.1 b.2.1.1 (fun a' b' => some (.inl (a', b'))) fun r => some (.inr r)) p.1 p.2) (x, y)
theorem nl_ref08_New_5 (F_ref08_Zeros : A_ref08_Zeros → M_ref08_Zeros → Option O_ref08_Zeros) (x1 : Int) (x2 : Int) (x3 : Int) (x4 : List ByteArray) (x5 : Int) {α : Type} (kn : LT_ref08_New_5 → LM_ref08_New_5 → Option α) (kr : LO_ref08_New_5 → Option α) : ltree_ref08_New_5 F_ref08_Zeros x1 x2 x3 x4 x5 kn kr = (ltree_ref08_New_5 F_ref08_Zeros x1 x2 x3 x4 x5 (fun a b => some (.inl (a, b))) fun r => some (.inr r)).bind (Sum.elim (fun p : LT_ref08_New_5 × LM_ref08_New_5 => kn p.1 p.2) kr) := by simp only [ltree_ref08_New_5, bind_cond, bind_none', bind_some', bind_bind', bind_sum, Sum.elim_inl, Sum.elim_inr]
theorem Le_ref08_New_5 (x1 : Int) (x2 : Int) (x3 : Int) (x4 : List ByteArray) (x5 : Int) : L_ref08_New_5 (x1, (x2, (x3, ()))) (x4, ((x5, ()), ())) = ltree_ref08_New_5 F_ref08_Zeros x1 x2 x3 x4 x5 L_ref08_New_5 some := runL_tree (A := LT_ref08_New_5) (B := LM_ref08_New_5) (R := LO_ref08_New_5) (fun a b kn kr => ltree_ref08_New_5 F_ref08_Zeros a.1 a.2.1 a.2.2.1 b.1 b.2.1.1 kn kr) (fun a b kn kr => nl_ref08_New_5 F_ref08_Zeros a.1 a.2.1 a.2.2.1 b.1 b.2.1.1 kn kr) (x1, (x2, (x3, ()))) (x4, ((x5, ()), ()))
def tree_ref08_New (L_ref08_New_5 : LT_ref08_New_5 → LM_ref08_New_5 → Option LO_ref08_New_5) {α : Type} (x1 : Int) (x2 : Int) (K : O_ref08_New → Option α) : Option α :=
  cond (decide (x1 < 1))
  (K (.inl ((), ())))
  (cond (decide (x1 > 256))
   (K (.inl ((), ())))
   (cond (decide (x2 < 32))
    (K (.inl ((), ())))
    (cond (decide (x2 > 512))
     (K (.inl ((), ())))
     ((L_ref08_New_5 (x1, x2, 0, ()) ([], (x2, ()), ())).bind fun r1 =>
      K (.inr ((), ((r1.snd.snd.fst.fst, ()), (r1.snd.fst, ([], ())))))))))
noncomputable def F_ref08_New : A_ref08_New → M_ref08_New → Option O_ref08_New := fun a b => tree_ref08_New L_ref08_New_5 a.1 a.2.1 some
theorem n_ref08_New (L_ref08_New_5 : LT_ref08_New_5 → LM_ref08_New_5 → Option LO_ref08_New_5) (x1 : Int) (x2 : Int) {α : Type} (K : O_ref08_New → Option α) : tree_ref08_New L_ref08_New_5 x1 x2 K = (tree_ref08_New L_ref08_New_5 x1 x2 some).bind K := by simp only [tree_ref08_New, bind_cond, bind_none', bind_some', bind_bind', bind_sum]
theorem Fe_ref08_New (x1 : Int) (x2 : Int) : F_ref08_New (x1, (x2, ())) () = tree_ref08_New L_ref08_New_5 x1 x2 some := rfl

/-! (*countersign/countersignref08.Disk).Write -/
def args_ref08_Disk_Write : SkL := (.cons (.const (.ptr 0 0 0)) (.cons (.leaf (.int .i64)) (.cons (.leaf .str) .nil)))
def mem_ref08_Disk_Write : MSk := [(0, .cells (.cons (.leaf (.int .i64)) (.cons (.const (.slw 1)) (.cons (.const (.slw 2)) .nil)))), (1, .row 9 (.cons .str .nil)), (2, .row 114 (.cons (.int .i64) (.cons (.int .i64) (.cons .str (.cons (.slc 3 (.cons (.int .i64) .nil)) .nil)))))]
def outs_ref08_Disk_Write : List OutC := [⟨(.leaf .bool), [(0, .cells (.cons (.leaf (.int .i64)) (.cons (.const (.slw 1)) (.cons (.const (.slw 3)) .nil)))), (1, .row 9 (.cons .str .nil)), (2, .gone), (3, .row 114 (.cons (.int .i64) (.cons (.int .i64) (.cons .str (.cons (.slc 3 (.cons (.int .i64) .nil)) .nil)))))]⟩]
abbrev A_ref08_Disk_Write : Type := (Int × ByteArray × Unit)
abbrev M_ref08_Disk_Write : Type := ((Int × Unit) × List ByteArray × (List (Int × Int × ByteArray × List Int)) × Unit)
abbrev O_ref08_Disk_Write : Type := Bool × ((Int × Unit) × List ByteArray × Unit × (List (Int × Int × ByteArray × List Int)) × Unit)
def tree_ref08_Disk_Write (F_ref08_Zeros : A_ref08_Zeros → M_ref08_Zeros → Option O_ref08_Zeros) {α : Type} (x1 : Int) (x2 : ByteArray) (x3 : Int) (x4 : List ByteArray) (x5 : List (Int × Int × ByteArray × List Int)) (K : O_ref08_Disk_Write → Option α) : Option α :=
  cond (decide (x1 < 0))
  (K (false, ((x3, ()), (x4, ((), (x5, ()))))))
  (cond (decide (x1 ≥ (↑x4.length : Int)))
   (K (false, ((x3, ()), (x4, ((), (x5, ()))))))
   (cond (decide ((↑x2.size : Int) > x3))
    (K (false, ((x3, ()), (x4, ((), (x5, ()))))))
    ((F_ref08_Zeros (IntKind.i64.wrap (x3 - (↑x2.size : Int)), ()) ()).bind fun r1 =>
     cond (decide (x2.size + r1.fst.size ≤ 9223372036854775807))
     (cond (decide ((x5.length + 1) * 56 ≤ 140737488355328))
      (K (true, ((x3, ()), (x4, ((), (x5 ++ ([] ++ [(0, x1, x2 ++ r1.fst, [])]), ()))))))
      (none))
     (none))))
noncomputable def F_ref08_Disk_Write : A_ref08_Disk_Write → M_ref08_Disk_Write → Option O_ref08_Disk_Write := fun a b => tree_ref08_Disk_Write F_ref08_Zeros a.1 a.2.1 b.1.1 b.2.1 b.2.2.1 some
theorem n_ref08_Disk_Write (F_ref08_Zeros : A_ref08_Zeros → M_ref08_Zeros → Option O_ref08_Zeros) (x1 : Int) (x2 : ByteArray) (x3 : Int) (x4 : List ByteArray) (x5 : List (Int × Int × ByteArray × List Int)) {α : Type} (K : O_ref08_Disk_Write → Option α) : tree_ref08_Disk_Write F_ref08_Zeros x1 x2 x3 x4 x5 K = (tree_ref08_Disk_Write F_ref08_Zeros x1 x2 x3 x4 x5 some).bind K := by simp only [tree_ref08_Disk_Write, bind_cond, bind_none', bind_some', bind_bind', bind_sum]
theorem Fe_ref08_Disk_Write (x1 : Int) (x2 : ByteArray) (x3 : Int) (x4 : List ByteArray) (x5 : List (Int × Int × ByteArray × List Int)) : F_ref08_Disk_Write (x1, (x2, ())) ((x3, ()), (x4, (x5, ()))) = tree_ref08_Disk_Write F_ref08_Zeros x1 x2 x3 x4 x5 some := rfl

/-! (*countersign/countersignref08.Disk).Crash -/
def args_ref08_Disk_Crash : SkL := (.cons (.const (.ptr 0 0 0)) (.cons (.leaf (.slc 3 (.cons (.int .i64) .nil))) .nil))
def mem_ref08_Disk_Crash : MSk := [(0, .cells (.cons (.leaf (.int .i64)) (.cons (.const (.slw 1)) (.cons (.const (.slw 2)) .nil)))), (1, .row 9 (.cons .str .nil)), (2, .row 114 (.cons (.int .i64) (.cons (.int .i64) (.cons .str (.cons (.slc 3 (.cons (.int .i64) .nil)) .nil)))))]
def outs_ref08_Disk_Crash : List OutC := [⟨(.tup .nil), [(0, .cells (.cons (.leaf (.int .i64)) (.cons (.const (.slw 1)) (.cons (.const (.slw 3)) .nil)))), (1, .row 9 (.cons .str .nil)), (2, .gone), (3, .row 114 (.cons (.int .i64) (.cons (.int .i64) (.cons .str (.cons (.slc 3 (.cons (.int .i64) .nil)) .nil)))))]⟩]
abbrev A_ref08_Disk_Crash : Type := (List Int × Unit)
abbrev M_ref08_Disk_Crash : Type := ((Int × Unit) × List ByteArray × (List (Int × Int × ByteArray × List Int)) × Unit)
abbrev O_ref08_Disk_Crash : Type := Unit × ((Int × Unit) × List ByteArray × Unit × (List (Int × Int × ByteArray × List Int)) × Unit)
def ltmps_ref08_Disk_Crash_1 : SkL := (.cons (.const (.ptr 0 0 0)) (.cons (.leaf (.slc 3 (.cons (.int .i64) .nil))) (.cons (.const .dead) (.cons (.const .dead) (.cons (.leaf (.int .i64)) (.cons (.const .dead) (.cons (.const .dead) (.cons (.const .dead) (.cons (.const .dead) (.cons (.const .dead) (.cons (.const .dead) (.cons (.const .dead) (.cons (.const .dead) (.cons (.const .dead) (.cons (.const .dead) (.cons (.const .dead) (.cons (.const .dead) (.cons (.const .dead) (.cons (.const .dead) (.cons (.const .dead) (.cons (.const .dead) (.cons (.const .dead) (.cons (.const .dead) (.cons (.const .dead) (.cons (.const .dead) (.cons (.const .dead) (.cons (.const .dead) (.cons (.const .dead) (.cons (.const .dead) (.cons (.const .dead) (.cons (.const .dead) (.cons (.const .dead) (.cons (.const .dead) (.cons (.const .dead) (.cons (.const .dead) (.cons (.const .dead) (.cons (.const .dead) (.cons (.const .dead) (.cons (.const .dead) (.cons (.const .dead) (.cons (.const .dead) (.cons (.const .dead) (.cons (.const .dead) (.cons (.const .dead) (.cons (.const .dead) (.cons (.const .dead) (.cons (.const .dead) (.cons (.const .dead) (.cons (.const .dead) (.cons (.const .dead) (.cons (.const .dead) (.cons (.const .dead) (.cons (.const .dead) (.cons (.const .dead) (.cons (.const .dead) (.cons (.const .dead) (.cons (.const .dead) (.cons (.const .dead) (.cons (.const .dead) (.cons (.const .dead) (.cons (.const .dead) (.cons (.const .dead) (.cons (.const .dead) (.cons (.const .dead) (.cons (.const .dead) (.cons (.const .dead) (.cons (.const .dead) (.cons (.const .dead) .nil))))))))))))))))))))))))))))))))))))))))))))))))))))))))))))))))))))
def lmem_ref08_Disk_Crash_1 : MSk := [(0, .cells (.cons (.leaf (.int .i64)) (.cons (.const (.slw 1)) (.cons (.const (.slw 2)) .nil)))), (1, .row 9 (.cons .str .nil)), (2, .row 114 (.cons (.int .i64) (.cons (.int .i64) (.cons .str (.cons (.slc 3 (.cons (.int .i64) .nil)) .nil)))))]
def louts_ref08_Disk_Crash_1 : List OutL := [⟨(.exit 0), (.cons (.const (.ptr 0 0 0)) (.cons (.const .dead) (.cons (.const .dead) (.cons (.const .dead) (.cons (.const .dead) (.cons (.const .dead) (.cons (.const .dead) (.cons (.const .dead) (.cons (.const .dead) (.cons (.const .dead) (.cons (.const .dead) (.cons (.const .dead) (.cons (.const .dead) (.cons (.const .dead) (.cons (.const .dead) (.cons (.const .dead) (.cons (.const .dead) (.cons (.const .dead) (.cons (.const .dead) (.cons (.const .dead) (.cons (.const .dead) (.cons (.const .dead) (.cons (.const .dead) (.cons (.const .dead) (.cons (.const .dead) (.cons (.const .dead) (.cons (.const .dead) (.cons (.const .dead) (.cons (.const .dead) (.cons (.const .dead) (.cons (.const .dead) (.cons (.const .dead) (.cons (.const .dead) (.cons (.const .dead) (.cons (.const .dead) (.cons (.const .dead) (.cons (.const .dead) (.cons (.const .dead) (.cons (.const .dead) (.cons (.const .dead) (.cons (.const .dead) (.cons (.const .dead) (.cons (.const .dead) (.cons (.const .dead) (.cons (.const .dead) (.cons (.const .dead) (.cons (.const .dead) (.cons (.const .dead) (.cons (.const .dead) (.cons (.const .dead) (.cons (.const .dead) (.cons (.const .dead) (.cons (.const .dead) (.cons (.const .dead) (.cons (.const .dead) (.cons (.const .dead) (.cons (.const .dead) (.cons (.const .dead) (.cons (.const .dead) (.cons (.const .dead) (.cons (.const .dead) (.cons (.const .dead) (.cons (.const .dead) (.cons (.const .dead) (.cons (.const .dead) (.cons (.const .dead) (.cons (.const .dead) (.cons (.const .dead) .nil)))))))))))))))))))))))))))))))))))))))))))))))))))))))))))))))))))), [(0, .cells (.cons (.leaf (.int .i64)) (.cons (.const (.slw 1)) (.cons (.const (.slw 2)) .nil)))), (1, .row 9 (.cons .str .nil)), (2, .row 114 (.cons (.int .i64) (.cons (.int .i64) (.cons .str (.cons (.slc 3 (.cons (.int .i64) .nil)) .nil)))))]⟩]
abbrev LT_ref08_Disk_Crash_1 : Type := (List Int × Int × Unit)
abbrev LM_ref08_Disk_Crash_1 : Type := ((Int × Unit) × List ByteArray × (List (Int × Int × ByteArray × List Int)) × Unit)
abbrev LO_ref08_Disk_Crash_1 : Type := Unit × ((Int × Unit) × List ByteArray × (List (Int × Int × ByteArray × List Int)) × Unit)
def ltree_ref08_Disk_Crash_1 {α : Type} (x1 : List Int) (x2 : Int) (x3 : Int) (x4 : List ByteArray) (x5 : List (Int × Int × ByteArray × List Int)) (kn : LT_ref08_Disk_Crash_1 → LM_ref08_Disk_Crash_1 → Option α) (kr : LO_ref08_Disk_Crash_1 → Option α) : Option α :=
  cond (decide (x2 < (↑x5.length : Int)))
  (cond (decide (x2 < (↑x1.length : Int)))
   (cond (decide (0 ≤ x2))
    (cond (decide (x2 < (↑x1.length : Int)))
     (cond (decide (x1.getD x2.toNat 0 < 0))
      (cond (decide (0 > x3))
       (cond (decide (0 ≤ x2))
        (cond (decide (x2 < (↑x5.length : Int)))
         (cond (decide (0 ≤ x3))
          (cond (decide (x3 ≤ (↑(x5.getD (0 + x2.toNat) (0, 0, ByteArray.empty, [])).snd.snd.fst.size : Int)))
           (cond (decide (0 ≤ (x5.getD (0 + x2.toNat) (0, 0, ByteArray.empty, [])).snd.fst))
            (cond (decide ((x5.getD (0 + x2.toNat) (0, 0, ByteArray.empty, [])).snd.fst < (↑x4.length : Int)))
             (cond (decide (0 ≤ x3))
              (cond (decide   (x3 ≤     (↑(x4.getD (0 + (x5.getD (0 + x2.toNat) (0, 0, ByteArray.empty, [])).snd.fst.toNat) ByteArray.empty).size : Int)))
               (cond (decide   (((x5.getD (0 + x2.toNat) (0, 0, ByteArray.empty, [])).snd.snd.fst.extract 0 x3.toNat).size +       ((x4.getD (0 + (x5.getD (0 + x2.toNat) (0, 0, ByteArray.empty, [])).snd.fst.toNat) ByteArray.empty).extract           x3.toNat           (x4.getD (0 + (x5.getD (0 + x2.toNat) (0, 0, ByteArray.empty, [])).snd.fst.toNat)               ByteArray.empty).size).size ≤     9223372036854775807))
                (cond (decide (0 ≤ (x5.getD (0 + x2.toNat) (0, 0, ByteArray.empty, [])).snd.fst))
                 (cond (decide ((x5.getD (0 + x2.toNat) (0, 0, ByteArray.empty, [])).snd.fst < (↑x4.length : Int)))
                  (kn (x1, (IntKind.i64.wrap (x2 + 1), ())) ((x3, ()), (x4.set (0 + (x5.getD (0 + x2.toNat) (0, 0, ByteArray.empty, [])).snd.fst.toNat)   ((x5.getD (0 + x2.toNat) (0, 0, ByteArray.empty, [])).snd.snd.fst.extract 0 x3.toNat ++     (x4.getD (0 + (x5.getD (0 + x2.toNat) (0, 0, ByteArray.empty, [])).snd.fst.toNat) ByteArray.empty).extract x3.toNat       (x4.getD (0 + (x5.getD (0 + x2.toNat) (0, 0, ByteArray.empty, [])).snd.fst.toNat) ByteArray.empty).size), (x5, ()))))
                  (none))
                 (none))
                (none))
               (none))
              (none))
             (none))
            (none))
           (none))
          (none))
         (none))
        (none))
       (cond (decide (0 ≤ x2))
        (cond (decide (x2 < (↑x5.length : Int)))
         (cond (decide (0 ≤ (x5.getD (0 + x2.toNat) (0, 0, ByteArray.empty, [])).snd.fst))
          (cond (decide ((x5.getD (0 + x2.toNat) (0, 0, ByteArray.empty, [])).snd.fst < (↑x4.length : Int)))
           (cond (decide   (((x5.getD (0 + x2.toNat) (0, 0, ByteArray.empty, [])).snd.snd.fst.extract 0 0).size +       ((x4.getD (0 + (x5.getD (0 + x2.toNat) (0, 0, ByteArray.empty, [])).snd.fst.toNat) ByteArray.empty).extract 0           (x4.getD (0 + (x5.getD (0 + x2.toNat) (0, 0, ByteArray.empty, [])).snd.fst.toNat)               ByteArray.empty).size).size ≤     9223372036854775807))
            (cond (decide (0 ≤ (x5.getD (0 + x2.toNat) (0, 0, ByteArray.empty, [])).snd.fst))
             (cond (decide ((x5.getD (0 + x2.toNat) (0, 0, ByteArray.empty, [])).snd.fst < (↑x4.length : Int)))
              (kn (x1, (IntKind.i64.wrap (x2 + 1), ())) ((x3, ()), (x4.set (0 + (x5.getD (0 + x2.toNat) (0, 0, ByteArray.empty, [])).snd.fst.toNat)   ((x5.getD (0 + x2.toNat) (0, 0, ByteArray.empty, [])).snd.snd.fst.extract 0 0 ++     (x4.getD (0 + (x5.getD (0 + x2.toNat) (0, 0, ByteArray.empty, [])).snd.fst.toNat) ByteArray.empty).extract 0       (x4.getD (0 + (x5.getD (0 + x2.toNat) (0, 0, ByteArray.empty, [])).snd.fst.toNat) ByteArray.empty).size), (x5, ()))))
              (none))
             (none))
            (none))
           (none))
          (none))
         (none))
        (none)))
      (cond (decide (x1.getD x2.toNat 0 > x3))
       (cond (decide (0 ≤ x2))
        (cond (decide (x2 < (↑x5.length : Int)))
         (cond (decide (0 ≤ x3))
          (cond (decide (x3 ≤ (↑(x5.getD (0 + x2.toNat) (0, 0, ByteArray.empty, [])).snd.snd.fst.size : Int)))
           (cond (decide (0 ≤ (x5.getD (0 + x2.toNat) (0, 0, ByteArray.empty, [])).snd.fst))
            (cond (decide ((x5.getD (0 + x2.toNat) (0, 0, ByteArray.empty, [])).snd.fst < (↑x4.length : Int)))
             (cond (decide (0 ≤ x3))
              (cond (decide   (x3 ≤     (↑(x4.getD (0 + (x5.getD (0 + x2.toNat) (0, 0, ByteArray.empty, [])).snd.fst.toNat) ByteArray.empty).size : Int)))
               (cond (decide   (((x5.getD (0 + x2.toNat) (0, 0, ByteArray.empty, [])).snd.snd.fst.extract 0 x3.toNat).size +       ((x4.getD (0 + (x5.getD (0 + x2.toNat) (0, 0, ByteArray.empty, [])).snd.fst.toNat) ByteArray.empty).extract           x3.toNat           (x4.getD (0 + (x5.getD (0 + x2.toNat) (0, 0, ByteArray.empty, [])).snd.fst.toNat)               ByteArray.empty).size).size ≤     9223372036854775807))
                (cond (decide (0 ≤ (x5.getD (0 + x2.toNat) (0, 0, ByteArray.empty, [])).snd.fst))
                 (cond (decide ((x5.getD (0 + x2.toNat) (0, 0, ByteArray.empty, [])).snd.fst < (↑x4.length : Int)))
                  (kn (x1, (IntKind.i64.wrap (x2 + 1), ())) ((x3, ()), (x4.set (0 + (x5.getD (0 + x2.toNat) (0, 0, ByteArray.empty, [])).snd.fst.toNat)   ((x5.getD (0 + x2.toNat) (0, 0, ByteArray.empty, [])).snd.snd.fst.extract 0 x3.toNat ++     (x4.getD (0 + (x5.getD (0 + x2.toNat) (0, 0, ByteArray.empty, [])).snd.fst.toNat) ByteArray.empty).extract x3.toNat       (x4.getD (0 + (x5.getD (0 + x2.toNat) (0, 0, ByteArray.empty, [])).snd.fst.toNat) ByteArray.empty).size), (x5, ()))))
                  (none))
                 (none))
                (none))
               (none))
              (none))
             (none))
            (none))
           (none))
          (none))
         (none))
        (none))
       (cond (decide (0 ≤ x2))
        (cond (decide (x2 < (↑x5.length : Int)))
         (cond (decide (0 ≤ x1.getD x2.toNat 0))
          (cond (decide (x1.getD x2.toNat 0 ≤ (↑(x5.getD (0 + x2.toNat) (0, 0, ByteArray.empty, [])).snd.snd.fst.size : Int)))
           (cond (decide (0 ≤ (x5.getD (0 + x2.toNat) (0, 0, ByteArray.empty, [])).snd.fst))
            (cond (decide ((x5.getD (0 + x2.toNat) (0, 0, ByteArray.empty, [])).snd.fst < (↑x4.length : Int)))
             (cond (decide (0 ≤ x1.getD x2.toNat 0))
              (cond (decide   (x1.getD x2.toNat 0 ≤     (↑(x4.getD (0 + (x5.getD (0 + x2.toNat) (0, 0, ByteArray.empty, [])).snd.fst.toNat) ByteArray.empty).size : Int)))
               (cond (decide   (((x5.getD (0 + x2.toNat) (0, 0, ByteArray.empty, [])).snd.snd.fst.extract 0 (x1.getD x2.toNat 0).toNat).size +       ((x4.getD (0 + (x5.getD (0 + x2.toNat) (0, 0, ByteArray.empty, [])).snd.fst.toNat) ByteArray.empty).extract           (x1.getD x2.toNat 0).toNat           (x4.getD (0 + (x5.getD (0 + x2.toNat) (0, 0, ByteArray.empty, [])).snd.fst.toNat)               ByteArray.empty).size).size ≤     9223372036854775807))
                (cond (decide (0 ≤ (x5.getD (0 + x2.toNat) (0, 0, ByteArray.empty, [])).snd.fst))
                 (cond (decide ((x5.getD (0 + x2.toNat) (0, 0, ByteArray.empty, [])).snd.fst < (↑x4.length : Int)))
                  (kn (x1, (IntKind.i64.wrap (x2 + 1), ())) ((x3, ()), (x4.set (0 + (x5.getD (0 + x2.toNat) (0, 0, ByteArray.empty, [])).snd.fst.toNat)   ((x5.getD (0 + x2.toNat) (0, 0, ByteArray.empty, [])).snd.snd.fst.extract 0 (x1.getD x2.toNat 0).toNat ++     (x4.getD (0 + (x5.getD (0 + x2.toNat) (0, 0, ByteArray.empty, [])).snd.fst.toNat) ByteArray.empty).extract       (x1.getD x2.toNat 0).toNat       (x4.getD (0 + (x5.getD (0 + x2.toNat) (0, 0, ByteArray.empty, [])).snd.fst.toNat) ByteArray.empty).size), (x5, ()))))
                  (none))
                 (none))
                (none))
               (none))
              (none))
             (none))
            (none))
           (none))
          (none))
         (none))
        (none))))
     (none))
    (none))
   (cond (decide (0 > x3))
    (cond (decide (0 ≤ x2))
     (cond (decide (x2 < (↑x5.length : Int)))
      (cond (decide (0 ≤ x3))
       (cond (decide (x3 ≤ (↑(x5.getD (0 + x2.toNat) (0, 0, ByteArray.empty, [])).snd.snd.fst.size : Int)))
        (cond (decide (0 ≤ (x5.getD (0 + x2.toNat) (0, 0, ByteArray.empty, [])).snd.fst))
         (cond (decide ((x5.getD (0 + x2.toNat) (0, 0, ByteArray.empty, [])).snd.fst < (↑x4.length : Int)))
          (cond (decide (0 ≤ x3))
           (cond (decide   (x3 ≤     (↑(x4.getD (0 + (x5.getD (0 + x2.toNat) (0, 0, ByteArray.empty, [])).snd.fst.toNat) ByteArray.empty).size : Int)))
            (cond (decide   (((x5.getD (0 + x2.toNat) (0, 0, ByteArray.empty, [])).snd.snd.fst.extract 0 x3.toNat).size +       ((x4.getD (0 + (x5.getD (0 + x2.toNat) (0, 0, ByteArray.empty, [])).snd.fst.toNat) ByteArray.empty).extract           x3.toNat           (x4.getD (0 + (x5.getD (0 + x2.toNat) (0, 0, ByteArray.empty, [])).snd.fst.toNat)               ByteArray.empty).size).size ≤     9223372036854775807))
             (cond (decide (0 ≤ (x5.getD (0 + x2.toNat) (0, 0, ByteArray.empty, [])).snd.fst))
              (cond (decide ((x5.getD (0 + x2.toNat) (0, 0, ByteArray.empty, [])).snd.fst < (↑x4.length : Int)))
               (kn (x1, (IntKind.i64.wrap (x2 + 1), ())) ((x3, ()), (x4.set (0 + (x5.getD (0 + x2.toNat) (0, 0, ByteArray.empty, [])).snd.fst.toNat)   ((x5.getD (0 + x2.toNat) (0, 0, ByteArray.empty, [])).snd.snd.fst.extract 0 x3.toNat ++     (x4.getD (0 + (x5.getD (0 + x2.toNat) (0, 0, ByteArray.empty, [])).snd.fst.toNat) ByteArray.empty).extract x3.toNat       (x4.getD (0 + (x5.getD (0 + x2.toNat) (0, 0, ByteArray.empty, [])).snd.fst.toNat) ByteArray.empty).size), (x5, ()))))
               (none))
              (none))
             (none))
            (none))
           (none))
          (none))
         (none))
        (none))
       (none))
      (none))
     (none))
    (cond (decide (0 ≤ x2))
     (cond (decide (x2 < (↑x5.length : Int)))
      (cond (decide (0 ≤ (x5.getD (0 + x2.toNat) (0, 0, ByteArray.empty, [])).snd.fst))
       (cond (decide ((x5.getD (0 + x2.toNat) (0, 0, ByteArray.empty, [])).snd.fst < (↑x4.length : Int)))
        (cond (decide   (((x5.getD (0 + x2.toNat) (0, 0, ByteArray.empty, [])).snd.snd.fst.extract 0 0).size +       ((x4.getD (0 + (x5.getD (0 + x2.toNat) (0, 0, ByteArray.empty, [])).snd.fst.toNat) ByteArray.empty).extract 0           (x4.getD (0 + (x5.getD (0 + x2.toNat) (0, 0, ByteArray.empty, [])).snd.fst.toNat)               ByteArray.empty).size).size ≤     9223372036854775807))
         (cond (decide (0 ≤ (x5.getD (0 + x2.toNat) (0, 0, ByteArray.empty, [])).snd.fst))
          (cond (decide ((x5.getD (0 + x2.toNat) (0, 0, ByteArray.empty, [])).snd.fst < (↑x4.length : Int)))
           (kn (x1, (IntKind.i64.wrap (x2 + 1), ())) ((x3, ()), (x4.set (0 + (x5.getD (0 + x2.toNat) (0, 0, ByteArray.empty, [])).snd.fst.toNat)   ((x5.getD (0 + x2.toNat) (0, 0, ByteArray.empty, [])).snd.snd.fst.extract 0 0 ++     (x4.getD (0 + (x5.getD (0 + x2.toNat) (0, 0, ByteArray.empty, [])).snd.fst.toNat) ByteArray.empty).extract 0       (x4.getD (0 + (x5.getD (0 + x2.toNat) (0, 0, ByteArray.empty, [])).snd.fst.toNat) ByteArray.empty).size), (x5, ()))))
           (none))
          (none))
         (none))
        (none))
       (none))
      (none))
     (none))))
  (kr ((), ((x3, ()), (x4, (x5, ())))))
noncomputable def L_ref08_Disk_Crash_1 : LT_ref08_Disk_Crash_1 → LM_ref08_Disk_Crash_1 → Option LO_ref08_Disk_Crash_1 := fun x y => runL (fun p => (fun (a : LT_ref08_Disk_Crash_1) (b : LM_ref08_Disk_Crash_1) => ltree_ref08_Disk_Crash_1 a.1 a.2.1 b.1.1 b.2.1 b.2.2.1 (fun a' b' => some (.inl (a', b'))) fun r => some (.inr r)) p.1 p.2) (x, y)
theorem nl_ref08_Disk_Crash_1 (x1 : List Int) (x2 : Int) (x3 : Int) (x4 : List ByteArray) (x5 : List (Int × Int × ByteArray × List Int)) {α : Type} (kn : LT_ref08_Disk_Crash_1 → LM_ref08_Disk_Crash_1 → Option α) (kr : LO_ref08_Disk_Crash_1 → Option α) : ltree_ref08_Disk_Crash_1 x1 x2 x3 x4 x5 kn kr = (ltree_ref08_Disk_Crash_1 x1 x2 x3 x4 x5 (fun a b => some (.inl (a, b))) fun r => some (.inr r)).bind (Sum.elim (fun p : LT_ref08_Disk_Crash_1 × LM_ref08_Disk_Crash_1 => kn p.1 p.2) kr) := by simp only [ltree_ref08_Disk_Crash_1, bind_cond, bind_none', bind_some', bind_bind', bind_sum, Sum.elim_inl, Sum.elim_inr]
theorem Le_ref08_Disk_Crash_1 (x1 : List Int) (x2 : Int) (x3 : Int) (x4 : List ByteArray) (x5 : List (Int × Int × ByteArray × List Int)) : L_ref08_Disk_Crash_1 (x1, (x2, ())) ((x3, ()), (x4, (x5, ()))) = ltree_ref08_Disk_Crash_1 x1 x2 x3 x4 x5 L_ref08_Disk_Crash_1 some := runL_tree (A := LT_ref08_Disk_Crash_1) (B := LM_ref08_Disk_Crash_1) (R := LO_ref08_Disk_Crash_1) (fun a b kn kr => ltree_ref08_Disk_Crash_1 a.1 a.2.1 b.1.1 b.2.1 b.2.2.1 kn kr) (fun a b kn kr => nl_ref08_Disk_Crash_1 a.1 a.2.1 b.1.1 b.2.1 b.2.2.1 kn kr) (x1, (x2, ())) ((x3, ()), (x4, (x5, ())))
def tree_ref08_Disk_Crash (L_ref08_Disk_Crash_1 : LT_ref08_Disk_Crash_1 → LM_ref08_Disk_Crash_1 → Option LO_ref08_Disk_Crash_1) {α : Type} (x1 : List Int) (x2 : Int) (x3 : List ByteArray) (x4 : List (Int × Int × ByteArray × List Int)) (K : O_ref08_Disk_Crash → Option α) : Option α :=
  (L_ref08_Disk_Crash_1 (x1, 0, ()) ((x2, ()), x3, x4, ())).bind fun r1 =>
  K ((), ((r1.snd.fst.fst, ()), (r1.snd.snd.fst, ((), ([], ())))))
noncomputable def F_ref08_Disk_Crash : A_ref08_Disk_Crash → M_ref08_Disk_Crash → Option O_ref08_Disk_Crash := fun a b => tree_ref08_Disk_Crash L_ref08_Disk_Crash_1 a.1 b.1.1 b.2.1 b.2.2.1 some
theorem n_ref08_Disk_Crash (L_ref08_Disk_Crash_1 : LT_ref08_Disk_Crash_1 → LM_ref08_Disk_Crash_1 → Option LO_ref08_Disk_Crash_1) (x1 : List Int) (x2 : Int) (x3 : List ByteArray) (x4 : List (Int × Int × ByteArray × List Int)) {α : Type} (K : O_ref08_Disk_Crash → Option α) : tree_ref08_Disk_Crash L_ref08_Disk_Crash_1 x1 x2 x3 x4 K = (tree_ref08_Disk_Crash L_ref08_Disk_Crash_1 x1 x2 x3 x4 some).bind K := by simp only [tree_ref08_Disk_Crash, bind_cond, bind_none', bind_some', bind_bind', bind_sum]
theorem Fe_ref08_Disk_Crash (x1 : List Int) (x2 : Int) (x3 : List ByteArray) (x4 : List (Int × Int × ByteArray × List Int)) : F_ref08_Disk_Crash (x1, ()) ((x2, ()), (x3, (x4, ()))) = tree_ref08_Disk_Crash L_ref08_Disk_Crash_1 x1 x2 x3 x4 some := rfl

/-! (*countersign/countersignref08.Disk).Flush -/
def args_ref08_Disk_Flush : SkL := (.cons (.const (.ptr 0 0 0)) .nil)
def mem_ref08_Disk_Flush : MSk := [(0, .cells (.cons (.leaf (.int .i64)) (.cons (.const (.slw 1)) (.cons (.const (.slw 2)) .nil)))), (1, .row 9 (.cons .str .nil)), (2, .row 114 (.cons (.int .i64) (.cons (.int .i64) (.cons .str (.cons (.slc 3 (.cons (.int .i64) .nil)) .nil)))))]
def outs_ref08_Disk_Flush : List OutC := [⟨(.tup .nil), [(0, .cells (.cons (.leaf (.int .i64)) (.cons (.const (.slw 1)) (.cons (.const (.slw 3)) .nil)))), (1, .row 9 (.cons .str .nil)), (2, .gone), (3, .row 114 (.cons (.int .i64) (.cons (.int .i64) (.cons .str (.cons (.slc 3 (.cons (.int .i64) .nil)) .nil)))))]⟩]
abbrev A_ref08_Disk_Flush : Type := Unit
abbrev M_ref08_Disk_Flush : Type := ((Int × Unit) × List ByteArray × (List (Int × Int × ByteArray × List Int)) × Unit)
abbrev O_ref08_Disk_Flush : Type := Unit × ((Int × Unit) × List ByteArray × Unit × (List (Int × Int × ByteArray × List Int)) × Unit)
def ltmps_ref08_Disk_Flush_2 : SkL := (.cons (.const (.ptr 0 0 0)) (.cons (.const .dead) (.cons (.const (.slw 502)) (.cons (.leaf (.int .i64)) (.cons (.const .dead) (.cons (.const .dead) (.cons (.const .dead) (.cons (.const .dead) (.cons (.const .dead) (.cons (.const .dead) (.cons (.const .dead) (.cons (.const .dead) (.cons (.const .dead) (.cons (.const .dead) (.cons (.const .dead) (.cons (.const .dead) (.cons (.const .dead) (.cons (.const .dead) (.cons (.const .dead) (.cons (.const .dead) (.cons (.const .dead) (.cons (.const .dead) (.cons (.const .dead) (.cons (.const .dead) .nil))))))))))))))))))))))))
def lmem_ref08_Disk_Flush_2 : MSk := [(0, .cells (.cons (.leaf (.int .i64)) (.cons (.const (.slw 1)) (.cons (.const (.slw 2)) .nil)))), (1, .row 9 (.cons .str .nil)), (2, .row 114 (.cons (.int .i64) (.cons (.int .i64) (.cons .str (.cons (.slc 3 (.cons (.int .i64) .nil)) .nil))))), (502, .row 3 (.cons (.int .i64) .nil))]
def louts_ref08_Disk_Flush_2 : List OutL := [⟨(.exit 0), (.cons (.const (.ptr 0 0 0)) (.cons (.const .dead) (.cons (.const (.slw 502)) (.cons (.const .dead) (.cons (.const .dead) (.cons (.const .dead) (.cons (.const .dead) (.cons (.const .dead) (.cons (.const .dead) (.cons (.const .dead) (.cons (.const .dead) (.cons (.const .dead) (.cons (.const .dead) (.cons (.const .dead) (.cons (.const .dead) (.cons (.const .dead) (.cons (.const .dead) (.cons (.const .dead) (.cons (.const .dead) (.cons (.const .dead) (.cons (.const .dead) (.cons (.const .dead) (.cons (.const .dead) (.cons (.const .dead) .nil)))))))))))))))))))))))), [(0, .cells (.cons (.leaf (.int .i64)) (.cons (.const (.slw 1)) (.cons (.const (.slw 2)) .nil)))), (1, .row 9 (.cons .str .nil)), (2, .row 114 (.cons (.int .i64) (.cons (.int .i64) (.cons .str (.cons (.slc 3 (.cons (.int .i64) .nil)) .nil))))), (502, .row 3 (.cons (.int .i64) .nil))]⟩]
abbrev LT_ref08_Disk_Flush_2 : Type := (Int × Unit)
abbrev LM_ref08_Disk_Flush_2 : Type := ((Int × Unit) × List ByteArray × (List (Int × Int × ByteArray × List Int)) × List Int × Unit)
abbrev LO_ref08_Disk_Flush_2 : Type := Unit × ((Int × Unit) × List ByteArray × (List (Int × Int × ByteArray × List Int)) × List Int × Unit)
def ltree_ref08_Disk_Flush_2 {α : Type} (x1 : Int) (x2 : Int) (x3 : List ByteArray) (x4 : List (Int × Int × ByteArray × List Int)) (x5 : List Int) (kn : LT_ref08_Disk_Flush_2 → LM_ref08_Disk_Flush_2 → Option α) (kr : LO_ref08_Disk_Flush_2 → Option α) : Option α :=
  cond (decide (x1 < (↑x4.length : Int)))
  (cond (decide ((x5.length + 1) * 8 ≤ 140737488355328))
   (kn (IntKind.i64.wrap (x1 + 1), ()) ((x2, ()), (x3, (x4, (x5 ++ ([] ++ [x2]), ())))))
   (none))
  (kr ((), ((x2, ()), (x3, (x4, (x5, ()))))))
noncomputable def L_ref08_Disk_Flush_2 : LT_ref08_Disk_Flush_2 → LM_ref08_Disk_Flush_2 → Option LO_ref08_Disk_Flush_2 := fun x y => runL (fun p => (fun (a : LT_ref08_Disk_Flush_2) (b : LM_ref08_Disk_Flush_2) => ltree_ref08_Disk_Flush_2 a.1 b.1.1 b.2.1 b.2.2.1 b.2.2.2.1 (fun a' b' => some (.inl (a', b'))) fun r => some (.inr r)) p.1 p.2) (x, y)
theorem nl_ref08_Disk_Flush_2 (x1 : Int) (x2 : Int) (x3 : List ByteArray) (x4 : List (Int × Int × ByteArray × List Int)) (x5 : List Int) {α : Type} (kn : LT_ref08_Disk_Flush_2 → LM_ref08_Disk_Flush_2 → Option α) (kr : LO_ref08_Disk_Flush_2 → Option α) : ltree_ref08_Disk_Flush_2 x1 x2 x3 x4 x5 kn kr = (ltree_ref08_Disk_Flush_2 x1 x2 x3 x4 x5 (fun a b => some (.inl (a, b))) fun r => some (.inr r)).bind (Sum.elim (fun p : LT_ref08_Disk_Flush_2 × LM_ref08_Disk_Flush_2 => kn p.1 p.2) kr) := by simp only [ltree_ref08_Disk_Flush_2, bind_cond, bind_none', bind_some', bind_bind', bind_sum, Sum.elim_inl, Sum.elim_inr]
theorem Le_ref08_Disk_Flush_2 (x1 : Int) (x2 : Int) (x3 : List ByteArray) (x4 : List (Int × Int × ByteArray × List Int)) (x5 : List Int) : L_ref08_Disk_Flush_2 (x1, ()) ((x2, ()), (x3, (x4, (x5, ())))) = ltree_ref08_Disk_Flush_2 x1 x2 x3 x4 x5 L_ref08_Disk_Flush_2 some := runL_tree (A := LT_ref08_Disk_Flush_2) (B := LM_ref08_Disk_Flush_2) (R := LO_ref08_Disk_Flush_2) (fun a b kn kr => ltree_ref08_Disk_Flush_2 a.1 b.1.1 b.2.1 b.2.2.1 b.2.2.2.1 kn kr) (fun a b kn kr => nl_ref08_Disk_Flush_2 a.1 b.1.1 b.2.1 b.2.2.1 b.2.2.2.1 kn kr) (x1, ()) ((x2, ()), (x3, (x4, (x5, ()))))
def tree_ref08_Disk_Flush (F_ref08_Disk_Crash : A_ref08_Disk_Crash → M_ref08_Disk_Crash → Option O_ref08_Disk_Crash) (L_ref08_Disk_Flush_2 : LT_ref08_Disk_Flush_2 → LM_ref08_Disk_Flush_2 → Option LO_ref08_Disk_Flush_2) {α : Type} (x1 : Int) (x2 : List ByteArray) (x3 : List (Int × Int × ByteArray × List Int)) (K : O_ref08_Disk_Flush → Option α) : Option α :=
  (L_ref08_Disk_Flush_2 (0, ()) ((x1, ()), x2, x3, [], ())).bind fun r1 =>
  (F_ref08_Disk_Crash (r1.snd.snd.snd.snd.fst, ())   ((r1.snd.fst.fst, ()), r1.snd.snd.fst, r1.snd.snd.snd.fst, ())).bind fun r2 =>
  K ((), ((r2.snd.fst.fst, ()), (r2.snd.snd.fst, ((), (r2.snd.snd.snd.snd.fst, ())))))
noncomputable def F_ref08_Disk_Flush : A_ref08_Disk_Flush → M_ref08_Disk_Flush → Option O_ref08_Disk_Flush := fun a b => tree_ref08_Disk_Flush F_ref08_Disk_Crash L_ref08_Disk_Flush_2 b.1.1 b.2.1 b.2.2.1 some
theorem n_ref08_Disk_Flush (F_ref08_Disk_Crash : A_ref08_Disk_Crash → M_ref08_Disk_Crash → Option O_ref08_Disk_Crash) (L_ref08_Disk_Flush_2 : LT_ref08_Disk_Flush_2 → LM_ref08_Disk_Flush_2 → Option LO_ref08_Disk_Flush_2) (x1 : Int) (x2 : List ByteArray) (x3 : List (Int × Int × ByteArray × List Int)) {α : Type} (K : O_ref08_Disk_Flush → Option α) : tree_ref08_Disk_Flush F_ref08_Disk_Crash L_ref08_Disk_Flush_2 x1 x2 x3 K = (tree_ref08_Disk_Flush F_ref08_Disk_Crash L_ref08_Disk_Flush_2 x1 x2 x3 some).bind K := by simp only [tree_ref08_Disk_Flush, bind_cond, bind_none', bind_some', bind_bind', bind_sum]
theorem Fe_ref08_Disk_Flush (x1 : Int) (x2 : List ByteArray) (x3 : List (Int × Int × ByteArray × List Int)) : F_ref08_Disk_Flush () ((x1, ()), (x2, (x3, ()))) = tree_ref08_Disk_Flush F_ref08_Disk_Crash L_ref08_Disk_Flush_2 x1 x2 x3 some := rfl

end Go.Proofs.Ytlfedmjjjbhnpaa.S2
