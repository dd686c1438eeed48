/- Plain forms of the program's functions, by program. -/
import Derived.Test.YtlfedmjjjbhnpaaGdisk
set_option maxRecDepth 100000
set_option maxHeartbeats 0
set_option linter.unusedVariables false
set_option linter.unusedSimpArgs false
namespace Go.Proofs.Ytlfedmjjjbhnpaa.S2
open Go
/-! countersign/slot.sized -/
def args_slot_sized : SkL := (.cons (.leaf (.int .i64)) .nil)
def mem_slot_sized : MSk := []
def outs_slot_sized : List OutC := [⟨(.leaf .bool), []⟩]
abbrev A_slot_sized : Type := (Int × Unit)
abbrev M_slot_sized : Type := Unit
abbrev O_slot_sized : Type := Bool × Unit
def tree_slot_sized {α : Type} (x1 : Int) (K : O_slot_sized → Option α) : Option α :=
  cond (decide (x1 ≥ 32))
  (K (decide (x1 ≤ 512), ()))
  (K (false, ()))
noncomputable def F_slot_sized : A_slot_sized → M_slot_sized → Option O_slot_sized := fun a b => tree_slot_sized a.1 some
theorem n_slot_sized (x1 : Int) {α : Type} (K : O_slot_sized → Option α) : tree_slot_sized x1 K = (tree_slot_sized x1 some).bind K := by simp only [tree_slot_sized, bind_cond, bind_none', bind_some', bind_bind', bind_sum]
theorem Fe_slot_sized (x1 : Int) : F_slot_sized (x1, ()) () = tree_slot_sized x1 some := rfl

/-! countersign/slot.eight -/
def args_slot_eight : SkL := (.cons (.leaf (.int .u64)) .nil)
def mem_slot_eight : MSk := []
def outs_slot_eight : List OutC := [⟨(.leaf .str), []⟩]
abbrev A_slot_eight : Type := (Int × Unit)
abbrev M_slot_eight : Type := Unit
abbrev O_slot_eight : Type := ByteArray × Unit
def tree_slot_eight {α : Type} (x1 : Int) (K : O_slot_eight → Option α) : Option α :=
  K (Go.strOfNums   [IntKind.u8.wrap (x1.fdiv 72057594037927936), IntKind.u8.wrap (x1.fdiv 281474976710656),     IntKind.u8.wrap (x1.fdiv 1099511627776), IntKind.u8.wrap (x1.fdiv 4294967296),     IntKind.u8.wrap (x1.fdiv 16777216), IntKind.u8.wrap (x1.fdiv 65536), IntKind.u8.wrap (x1.fdiv 256),     IntKind.u8.wrap (x1.fdiv 1)], ())
noncomputable def F_slot_eight : A_slot_eight → M_slot_eight → Option O_slot_eight := fun a b => tree_slot_eight a.1 some
theorem n_slot_eight (x1 : Int) {α : Type} (K : O_slot_eight → Option α) : tree_slot_eight x1 K = (tree_slot_eight x1 some).bind K := by simp only [tree_slot_eight, bind_cond, bind_none', bind_some', bind_bind', bind_sum]
theorem Fe_slot_eight (x1 : Int) : F_slot_eight (x1, ()) () = tree_slot_eight x1 some := rfl

/-! countersign/slot.number -/
def args_slot_number : SkL := (.cons (.leaf .str) .nil)
def mem_slot_number : MSk := []
def outs_slot_number : List OutC := [⟨(.leaf (.int .u64)), []⟩]
abbrev A_slot_number : Type := (ByteArray × Unit)
abbrev M_slot_number : Type := Unit
abbrev O_slot_number : Type := Int × Unit
def ltmps_slot_number_3 : SkL := (.cons (.leaf .str) (.cons (.const .dead) (.cons (.const .dead) (.cons (.leaf (.int .u64)) (.cons (.const .dead) (.cons (.const .dead) (.cons (.leaf (.int .i64)) (.cons (.leaf (.int .i64)) (.cons (.const .dead) (.cons (.const .dead) (.cons (.const .dead) (.cons (.const .dead) (.cons (.const .dead) (.cons (.const .dead) (.cons (.const .dead) (.cons (.const .dead) (.cons (.const .dead) (.cons (.const .dead) (.cons (.const .dead) .nil)))))))))))))))))))
def lmem_slot_number_3 : MSk := []
def louts_slot_number_3 : List OutL := [⟨(.exit 0), (.cons (.const .dead) (.cons (.const .dead) (.cons (.const .dead) (.cons (.leaf (.int .u64)) (.cons (.const .dead) (.cons (.const .dead) (.cons (.const .dead) (.cons (.const .dead) (.cons (.const .dead) (.cons (.const .dead) (.cons (.const .dead) (.cons (.const .dead) (.cons (.const .dead) (.cons (.const .dead) (.cons (.const .dead) (.cons (.const .dead) (.cons (.const .dead) (.cons (.const .dead) (.cons (.const .dead) .nil))))))))))))))))))), []⟩]
abbrev LT_slot_number_3 : Type := (ByteArray × Int × Int × Int × Unit)
abbrev LM_slot_number_3 : Type := Unit
abbrev LO_slot_number_3 : Type := (Int × Unit) × Unit
def ltree_slot_number_3 {α : Type} (x1 : ByteArray) (x2 : Int) (x3 : Int) (x4 : Int) (kn : LT_slot_number_3 → LM_slot_number_3 → Option α) (kr : LO_slot_number_3 → Option α) : Option α :=
  cond (decide (x4 < x3))
  (cond (decide (0 ≤ x4))
   (cond (decide (x4 < (↑x1.size : Int)))
    (kn (x1, (IntKind.u64.wrap   (↑(BitVec.ofInt 64 (IntKind.u64.wrap (x2 * 256)) |||           BitVec.ofInt 64 (IntKind.u64.wrap (Go.Proofs.Ytlfedmjjjbhnpaa.S2.strAt x1 x4))).toNat :     Int), (x3, (IntKind.i64.wrap (x4 + 1), ())))) ())
    (none))
   (none))
  (kr ((x2, ()), ()))
noncomputable def L_slot_number_3 : LT_slot_number_3 → LM_slot_number_3 → Option LO_slot_number_3 := fun x y => runL (fun p => (fun (a : LT_slot_number_3) (b : LM_slot_number_3) => ltree_slot_number_3 a.1 a.2.1 a.2.2.1 a.2.2.2.1 (fun a' b' => some (.inl (a', b'))) fun r => some (.inr r)) p.1 p.2) (x, y)
theorem nl_slot_number_3 (x1 : ByteArray) (x2 : Int) (x3 : Int) (x4 : Int) {α : Type} (kn : LT_slot_number_3 → LM_slot_number_3 → Option α) (kr : LO_slot_number_3 → Option α) : ltree_slot_number_3 x1 x2 x3 x4 kn kr = (ltree_slot_number_3 x1 x2 x3 x4 (fun a b => some (.inl (a, b))) fun r => some (.inr r)).bind (Sum.elim (fun p : LT_slot_number_3 × LM_slot_number_3 => kn p.1 p.2) kr) := by simp only [ltree_slot_number_3, bind_cond, bind_none', bind_some', bind_bind', bind_sum, Sum.elim_inl, Sum.elim_inr]
theorem Le_slot_number_3 (x1 : ByteArray) (x2 : Int) (x3 : Int) (x4 : Int) : L_slot_number_3 (x1, (x2, (x3, (x4, ())))) () = ltree_slot_number_3 x1 x2 x3 x4 L_slot_number_3 some := runL_tree (A := LT_slot_number_3) (B := LM_slot_number_3) (R := LO_slot_number_3) (fun a b kn kr => ltree_slot_number_3 a.1 a.2.1 a.2.2.1 a.2.2.2.1 kn kr) (fun a b kn kr => nl_slot_number_3 a.1 a.2.1 a.2.2.1 a.2.2.2.1 kn kr) (x1, (x2, (x3, (x4, ())))) ()
def tree_slot_number (L_slot_number_3 : LT_slot_number_3 → LM_slot_number_3 → Option LO_slot_number_3) {α : Type} (x1 : ByteArray) (K : O_slot_number → Option α) : Option α :=
  (L_slot_number_3 (x1, 0, (↑x1.size : Int), 0, ()) ()).bind fun r1 =>
  K (r1.fst.fst, ())
noncomputable def F_slot_number : A_slot_number → M_slot_number → Option O_slot_number := fun a b => tree_slot_number L_slot_number_3 a.1 some
theorem n_slot_number (L_slot_number_3 : LT_slot_number_3 → LM_slot_number_3 → Option LO_slot_number_3) (x1 : ByteArray) {α : Type} (K : O_slot_number → Option α) : tree_slot_number L_slot_number_3 x1 K = (tree_slot_number L_slot_number_3 x1 some).bind K := by simp only [tree_slot_number, bind_cond, bind_none', bind_some', bind_bind', bind_sum]
theorem Fe_slot_number (x1 : ByteArray) : F_slot_number (x1, ()) () = tree_slot_number L_slot_number_3 x1 some := rfl

/-! countersign/slot.Frame -/
def args_slot_Frame : SkL := (.cons (.leaf (.int .u64)) (.cons (.leaf .str) (.cons (.leaf (.int .i64)) .nil)))
def mem_slot_Frame : MSk := []
def outs_slot_Frame : List OutC := [⟨(.tup (.cons (.leaf .str) (.cons (.leaf .bool) .nil))), []⟩]
abbrev A_slot_Frame : Type := (Int × ByteArray × Int × Unit)
abbrev M_slot_Frame : Type := Unit
abbrev O_slot_Frame : Type := (ByteArray × Bool × Unit) × Unit
def tree_slot_Frame (F_slot_sized : A_slot_sized → M_slot_sized → Option O_slot_sized) (F_slot_eight : A_slot_eight → M_slot_eight → Option O_slot_eight) (F_strings_Repeat : A_strings_Repeat → M_strings_Repeat → Option O_strings_Repeat) {α : Type} (x1 : Int) (x2 : ByteArray) (x3 : Int) (K : O_slot_Frame → Option α) : Option α :=
  (F_slot_sized (x3, ()) ()).bind fun r1 =>
  cond (!r1.fst)
  (K ((ByteArray.empty, (false, ())), ()))
  (cond (x1 == 0)
   (K ((ByteArray.empty, (false, ())), ()))
   (cond (decide ((↑x2.size : Int) > IntKind.i64.wrap (x3 - 18)))
    (K ((ByteArray.empty, (false, ())), ()))
    ((F_slot_eight (x1, ()) ()).bind fun r2 =>
     cond (decide   (r2.fst.size +       (Go.strOfNums           ([] ++ [IntKind.u8.wrap ((↑x2.size : Int).fdiv 256)] ++ [IntKind.u8.wrap (↑x2.size : Int)])).size ≤     9223372036854775807))
     (cond (decide   ((r2.fst ++           Go.strOfNums             ([] ++ [IntKind.u8.wrap ((↑x2.size : Int).fdiv 256)] ++ [IntKind.u8.wrap (↑x2.size : Int)])).size +       x2.size ≤     9223372036854775807))
      ((F_strings_Repeat   ((ByteArray.mk #[0]), IntKind.i64.wrap (IntKind.i64.wrap (x3 - 18) - (↑x2.size : Int)), ()) ()).bind fun r3 =>
       cond (decide   ((r2.fst ++             Go.strOfNums               ([] ++ [IntKind.u8.wrap ((↑x2.size : Int).fdiv 256)] ++ [IntKind.u8.wrap (↑x2.size : Int)]) ++           x2).size +       r3.fst.size ≤     9223372036854775807))
       ((F_slot_eight (x1, ()) ()).bind fun r4 =>
        cond (decide   ((r2.fst ++               Go.strOfNums                 ([] ++ [IntKind.u8.wrap ((↑x2.size : Int).fdiv 256)] ++ [IntKind.u8.wrap (↑x2.size : Int)]) ++             x2 ++           r3.fst).size +       r4.fst.size ≤     9223372036854775807))
        (K ((r2.fst ++         Go.strOfNums           ([] ++ [IntKind.u8.wrap ((↑x2.size : Int).fdiv 256)] ++ [IntKind.u8.wrap (↑x2.size : Int)]) ++       x2 ++     r3.fst ++   r4.fst, (true, ())), ()))
        (none))
       (none))
      (none))
     (none))))
noncomputable def F_slot_Frame : A_slot_Frame → M_slot_Frame → Option O_slot_Frame := fun a b => tree_slot_Frame F_slot_sized F_slot_eight F_strings_Repeat a.1 a.2.1 a.2.2.1 some
theorem n_slot_Frame (F_slot_sized : A_slot_sized → M_slot_sized → Option O_slot_sized) (F_slot_eight : A_slot_eight → M_slot_eight → Option O_slot_eight) (F_strings_Repeat : A_strings_Repeat → M_strings_Repeat → Option O_strings_Repeat) (x1 : Int) (x2 : ByteArray) (x3 : Int) {α : Type} (K : O_slot_Frame → Option α) : tree_slot_Frame F_slot_sized F_slot_eight F_strings_Repeat x1 x2 x3 K = (tree_slot_Frame F_slot_sized F_slot_eight F_strings_Repeat x1 x2 x3 some).bind K := by simp only [tree_slot_Frame, bind_cond, bind_none', bind_some', bind_bind', bind_sum]
theorem Fe_slot_Frame (x1 : Int) (x2 : ByteArray) (x3 : Int) : F_slot_Frame (x1, (x2, (x3, ()))) () = tree_slot_Frame F_slot_sized F_slot_eight F_strings_Repeat x1 x2 x3 some := rfl

/-! countersign/slot.Unframe -/
def args_slot_Unframe : SkL := (.cons (.leaf .str) .nil)
def mem_slot_Unframe : MSk := []
def outs_slot_Unframe : List OutC := [⟨(.tup (.cons (.leaf (.int .u64)) (.cons (.leaf .str) (.cons (.leaf .bool) .nil)))), []⟩]
abbrev A_slot_Unframe : Type := (ByteArray × Unit)
abbrev M_slot_Unframe : Type := Unit
abbrev O_slot_Unframe : Type := (Int × ByteArray × Bool × Unit) × Unit
def tree_slot_Unframe (F_slot_sized : A_slot_sized → M_slot_sized → Option O_slot_sized) (F_slot_number : A_slot_number → M_slot_number → Option O_slot_number) {α : Type} (x1 : ByteArray) (K : O_slot_Unframe → Option α) : Option α :=
  (F_slot_sized ((↑x1.size : Int), ()) ()).bind fun r1 =>
  cond (!r1.fst)
  (K ((0, (ByteArray.empty, (false, ()))), ()))
  (cond (decide (8 ≤ (↑x1.size : Int)))
   ((F_slot_number (x1.extract 0 8, ()) ()).bind fun r2 =>
    cond (decide (10 ≤ (↑x1.size : Int)))
    ((F_slot_number (x1.extract 8 10, ()) ()).bind fun r3 =>
     cond (r2.fst == 0)
     (K ((0, (ByteArray.empty, (false, ()))), ()))
     (cond (decide (0 ≤ IntKind.i64.wrap ((↑x1.size : Int) - 8)))
      (cond (decide (IntKind.i64.wrap ((↑x1.size : Int) - 8) ≤ (↑x1.size : Int)))
       ((F_slot_number (x1.extract (IntKind.i64.wrap ((↑x1.size : Int) - 8)).toNat x1.size, ()) ()).bind fun r4 =>
        cond (r2.fst != r4.fst)
        (K ((0, (ByteArray.empty, (false, ()))), ()))
        (cond (decide (IntKind.i64.wrap r3.fst > IntKind.i64.wrap ((↑x1.size : Int) - 18)))
         (K ((0, (ByteArray.empty, (false, ()))), ()))
         (cond (decide (10 ≤ IntKind.i64.wrap (10 + IntKind.i64.wrap r3.fst)))
          (cond (decide (IntKind.i64.wrap (10 + IntKind.i64.wrap r3.fst) ≤ (↑x1.size : Int)))
           (K ((r2.fst, (x1.extract 10 (IntKind.i64.wrap (10 + IntKind.i64.wrap r3.fst)).toNat, (true, ()))), ()))
           (none))
          (none))))
       (none))
      (none)))
    (none))
   (none))
noncomputable def F_slot_Unframe : A_slot_Unframe → M_slot_Unframe → Option O_slot_Unframe := fun a b => tree_slot_Unframe F_slot_sized F_slot_number a.1 some
theorem n_slot_Unframe (F_slot_sized : A_slot_sized → M_slot_sized → Option O_slot_sized) (F_slot_number : A_slot_number → M_slot_number → Option O_slot_number) (x1 : ByteArray) {α : Type} (K : O_slot_Unframe → Option α) : tree_slot_Unframe F_slot_sized F_slot_number x1 K = (tree_slot_Unframe F_slot_sized F_slot_number x1 some).bind K := by simp only [tree_slot_Unframe, bind_cond, bind_none', bind_some', bind_bind', bind_sum]
theorem Fe_slot_Unframe (x1 : ByteArray) : F_slot_Unframe (x1, ()) () = tree_slot_Unframe F_slot_sized F_slot_number x1 some := rfl

/-! countersign/slot.newest -/
def args_slot_newest : SkL := (.cons (.const (.ptr 0 0 0)) (.cons (.leaf (.int .i64)) (.cons (.leaf (.int .i64)) .nil)))
def mem_slot_newest : MSk := [(0, .cells (.cons (.leaf (.int .i64)) (.cons (.const (.slw 1)) (.cons (.const (.slw 2)) .nil)))), (1, .row 9 (.cons .str .nil)), (2, .row 127 (.cons (.int .i64) (.cons .str .nil)))]
def outs_slot_newest : List OutC := [⟨(.tup (.cons (.leaf (.int .i64)) (.cons (.leaf (.int .u64)) (.cons (.leaf .str) .nil)))), []⟩]
abbrev A_slot_newest : Type := (Int × Int × Unit)
abbrev M_slot_newest : Type := ((Int × Unit) × List ByteArray × (List (Int × ByteArray)) × Unit)
abbrev O_slot_newest : Type := (Int × Int × ByteArray × Unit) × Unit
def routs_slot_newest : List OutC := [⟨(.tup (.cons (.leaf (.int .i64)) (.cons (.leaf (.int .u64)) (.cons (.leaf .str) .nil)))), [(0, .cells (.cons (.leaf (.int .i64)) (.cons (.const (.slw 1)) (.cons (.const (.slw 2)) .nil)))), (1, .row 9 (.cons .str .nil)), (2, .row 127 (.cons (.int .i64) (.cons .str .nil)))]⟩]
abbrev RO_slot_newest : Type := (Int × Int × ByteArray × Unit) × ((Int × Unit) × List ByteArray × (List (Int × ByteArray)) × Unit)
def tree_slot_newest (F_disk_Disk_Read : A_disk_Disk_Read → M_disk_Disk_Read → Option O_disk_Disk_Read) (F_slot_Unframe : A_slot_Unframe → M_slot_Unframe → Option O_slot_Unframe) {α : Type} (x1 : Int) (x2 : Int) (x3 : Int) (x4 : List ByteArray) (x5 : List (Int × ByteArray)) (K : RO_slot_newest → Option α) : Option α :=
  (F_disk_Disk_Read (x1, ()) ((x3, ()), x4, x5, ())).bind fun r1 =>
  (F_disk_Disk_Read (x2, ()) ((x3, ()), x4, x5, ())).bind fun r2 =>
  (F_slot_Unframe (r1.fst.fst, ()) ()).bind fun r3 =>
  (F_slot_Unframe (r2.fst.fst, ()) ()).bind fun r4 =>
  cond (r4.fst.snd.snd.fst)
  (cond (!r3.fst.snd.snd.fst)
   (K ((x2, (r4.fst.fst, (r4.fst.snd.fst, ()))), ((x3, ()), (x4, (x5, ())))))
   (cond (decide (r4.fst.fst > r3.fst.fst))
    (K ((x2, (r4.fst.fst, (r4.fst.snd.fst, ()))), ((x3, ()), (x4, (x5, ())))))
    (cond (!r3.fst.snd.snd.fst)
     (K ((x2, (0, (ByteArray.empty, ()))), ((x3, ()), (x4, (x5, ())))))
     (K ((x1, (r3.fst.fst, (r3.fst.snd.fst, ()))), ((x3, ()), (x4, (x5, ()))))))))
  (cond (!r3.fst.snd.snd.fst)
   (K ((x2, (0, (ByteArray.empty, ()))), ((x3, ()), (x4, (x5, ())))))
   (K ((x1, (r3.fst.fst, (r3.fst.snd.fst, ()))), ((x3, ()), (x4, (x5, ()))))))
noncomputable def R_slot_newest : A_slot_newest → M_slot_newest → Option RO_slot_newest := fun a b => tree_slot_newest F_disk_Disk_Read F_slot_Unframe a.1 a.2.1 b.1.1 b.2.1 b.2.2.1 some
theorem reads_slot_newest (a : A_slot_newest) (b : M_slot_newest) : Leaf (fun r : RO_slot_newest => r.2 = b) (R_slot_newest a b) := by
  show Leaf _ (tree_slot_newest F_disk_Disk_Read F_slot_Unframe a.1 a.2.1 b.1.1 b.2.1 b.2.2.1 some)
  unfold tree_slot_newest
  repeat (first | (with_reducible refine leaf_bind fun _ => ?_) | (with_reducible apply leaf_cond) | (with_reducible refine leaf_sum (fun _ => ?_) (fun _ => ?_)) | (with_reducible exact leaf_none) | exact leaf_some rfl)
noncomputable def F_slot_newest : A_slot_newest → M_slot_newest → Option O_slot_newest := fun a b => (R_slot_newest a b).map fun r => (r.1, ())
theorem n_slot_newest (F_disk_Disk_Read : A_disk_Disk_Read → M_disk_Disk_Read → Option O_disk_Disk_Read) (F_slot_Unframe : A_slot_Unframe → M_slot_Unframe → Option O_slot_Unframe) (x1 : Int) (x2 : Int) (x3 : Int) (x4 : List ByteArray) (x5 : List (Int × ByteArray)) {α : Type} (K : RO_slot_newest → Option α) : tree_slot_newest F_disk_Disk_Read F_slot_Unframe x1 x2 x3 x4 x5 K = (tree_slot_newest F_disk_Disk_Read F_slot_Unframe x1 x2 x3 x4 x5 some).bind K := by simp only [tree_slot_newest, bind_cond, bind_none', bind_some', bind_bind', bind_sum]
theorem Fe_slot_newest (x1 : Int) (x2 : Int) (x3 : Int) (x4 : List ByteArray) (x5 : List (Int × ByteArray)) : F_slot_newest (x1, (x2, ())) ((x3, ()), (x4, (x5, ()))) = (tree_slot_newest F_disk_Disk_Read F_slot_Unframe x1 x2 x3 x4 x5 some).map fun r => (r.1, ()) := rfl

/-! countersign/slot.Load -/
def args_slot_Load : SkL := (.cons (.const (.ptr 0 0 0)) (.cons (.leaf (.int .i64)) (.cons (.leaf (.int .i64)) .nil)))
def mem_slot_Load : MSk := [(0, .cells (.cons (.leaf (.int .i64)) (.cons (.const (.slw 1)) (.cons (.const (.slw 2)) .nil)))), (1, .row 9 (.cons .str .nil)), (2, .row 127 (.cons (.int .i64) (.cons .str .nil)))]
def outs_slot_Load : List OutC := [⟨(.tup (.cons (.leaf (.int .u64)) (.cons (.leaf .str) .nil))), []⟩]
abbrev A_slot_Load : Type := (Int × Int × Unit)
abbrev M_slot_Load : Type := ((Int × Unit) × List ByteArray × (List (Int × ByteArray)) × Unit)
abbrev O_slot_Load : Type := (Int × ByteArray × Unit) × Unit
def routs_slot_Load : List OutC := [⟨(.tup (.cons (.leaf (.int .u64)) (.cons (.leaf .str) .nil))), [(0, .cells (.cons (.leaf (.int .i64)) (.cons (.const (.slw 1)) (.cons (.const (.slw 2)) .nil)))), (1, .row 9 (.cons .str .nil)), (2, .row 127 (.cons (.int .i64) (.cons .str .nil)))]⟩]
abbrev RO_slot_Load : Type := (Int × ByteArray × Unit) × ((Int × Unit) × List ByteArray × (List (Int × ByteArray)) × Unit)
def tree_slot_Load (F_slot_newest : A_slot_newest → M_slot_newest → Option O_slot_newest) {α : Type} (x1 : Int) (x2 : Int) (x3 : Int) (x4 : List ByteArray) (x5 : List (Int × ByteArray)) (K : RO_slot_Load → Option α) : Option α :=
  (F_slot_newest (x1, x2, ()) ((x3, ()), x4, x5, ())).bind fun r1 =>
  K ((r1.fst.snd.fst, (r1.fst.snd.snd.fst, ())), ((x3, ()), (x4, (x5, ()))))
noncomputable def R_slot_Load : A_slot_Load → M_slot_Load → Option RO_slot_Load := fun a b => tree_slot_Load F_slot_newest a.1 a.2.1 b.1.1 b.2.1 b.2.2.1 some
theorem reads_slot_Load (a : A_slot_Load) (b : M_slot_Load) : Leaf (fun r : RO_slot_Load => r.2 = b) (R_slot_Load a b) := by
  show Leaf _ (tree_slot_Load F_slot_newest a.1 a.2.1 b.1.1 b.2.1 b.2.2.1 some)
  unfold tree_slot_Load
  repeat (first | (with_reducible refine leaf_bind fun _ => ?_) | (with_reducible apply leaf_cond) | (with_reducible refine leaf_sum (fun _ => ?_) (fun _ => ?_)) | (with_reducible exact leaf_none) | exact leaf_some rfl)
noncomputable def F_slot_Load : A_slot_Load → M_slot_Load → Option O_slot_Load := fun a b => (R_slot_Load a b).map fun r => (r.1, ())
theorem n_slot_Load (F_slot_newest : A_slot_newest → M_slot_newest → Option O_slot_newest) (x1 : Int) (x2 : Int) (x3 : Int) (x4 : List ByteArray) (x5 : List (Int × ByteArray)) {α : Type} (K : RO_slot_Load → Option α) : tree_slot_Load F_slot_newest x1 x2 x3 x4 x5 K = (tree_slot_Load F_slot_newest x1 x2 x3 x4 x5 some).bind K := by simp only [tree_slot_Load, bind_cond, bind_none', bind_some', bind_bind', bind_sum]
theorem Fe_slot_Load (x1 : Int) (x2 : Int) (x3 : Int) (x4 : List ByteArray) (x5 : List (Int × ByteArray)) : F_slot_Load (x1, (x2, ())) ((x3, ()), (x4, (x5, ()))) = (tree_slot_Load F_slot_newest x1 x2 x3 x4 x5 some).map fun r => (r.1, ()) := rfl

/-! countersign/slot.Begin -/
def args_slot_Begin : SkL := (.cons (.const (.ptr 0 0 0)) (.cons (.leaf (.int .i64)) (.cons (.leaf (.int .i64)) (.cons (.leaf .str) .nil))))
def mem_slot_Begin : MSk := [(0, .cells (.cons (.leaf (.int .i64)) (.cons (.const (.slw 1)) (.cons (.const (.slw 2)) .nil)))), (1, .row 9 (.cons .str .nil)), (2, .row 127 (.cons (.int .i64) (.cons .str .nil)))]
def outs_slot_Begin : List OutC := [⟨(.leaf .bool), [(0, .cells (.cons (.leaf (.int .i64)) (.cons (.const (.slw 1)) (.cons (.const (.slw 3)) .nil)))), (1, .row 9 (.cons .str .nil)), (2, .gone), (3, .row 127 (.cons (.int .i64) (.cons .str .nil)))]⟩]
abbrev A_slot_Begin : Type := (Int × Int × ByteArray × Unit)
abbrev M_slot_Begin : Type := ((Int × Unit) × List ByteArray × (List (Int × ByteArray)) × Unit)
abbrev O_slot_Begin : Type := Bool × ((Int × Unit) × List ByteArray × Unit × (List (Int × ByteArray)) × Unit)
def tree_slot_Begin (F_disk_Disk_Sectors : A_disk_Disk_Sectors → M_disk_Disk_Sectors → Option O_disk_Disk_Sectors) (F_slot_newest : A_slot_newest → M_slot_newest → Option O_slot_newest) (F_disk_Disk_Size : A_disk_Disk_Size → M_disk_Disk_Size → Option O_disk_Disk_Size) (F_slot_Frame : A_slot_Frame → M_slot_Frame → Option O_slot_Frame) (F_disk_Disk_Write : A_disk_Disk_Write → M_disk_Disk_Write → Option O_disk_Disk_Write) {α : Type} (x1 : Int) (x2 : Int) (x3 : ByteArray) (x4 : Int) (x5 : List ByteArray) (x6 : List (Int × ByteArray)) (K : O_slot_Begin → Option α) : Option α :=
  cond (x1 == x2)
  (K (false, ((x4, ()), (x5, ((), (x6, ()))))))
  (cond (decide (x1 < 0))
   (K (false, ((x4, ()), (x5, ((), (x6, ()))))))
   (cond (decide (x2 < 0))
    (K (false, ((x4, ()), (x5, ((), (x6, ()))))))
    ((F_disk_Disk_Sectors () ((x4, ()), x5, x6, ())).bind fun r1 =>
     cond (decide (x1 ≥ r1.fst))
     (K (false, ((x4, ()), (x5, ((), (x6, ()))))))
     ((F_disk_Disk_Sectors () ((x4, ()), x5, x6, ())).bind fun r2 =>
      cond (decide (x2 ≥ r2.fst))
      (K (false, ((x4, ()), (x5, ((), (x6, ()))))))
      ((F_slot_newest (x1, x2, ()) ((x4, ()), x5, x6, ())).bind fun r3 =>
       cond (r3.fst.snd.fst == 18446744073709551615)
       (K (false, ((x4, ()), (x5, ((), (x6, ()))))))
       ((F_disk_Disk_Size () ((x4, ()), x5, x6, ())).bind fun r4 =>
        (F_slot_Frame (IntKind.u64.wrap (r3.fst.snd.fst + 1), x3, r4.fst, ()) ()).bind fun r5 =>
        cond (!r5.fst.snd.fst)
        (K (false, ((x4, ()), (x5, ((), (x6, ()))))))
        (cond (r3.fst.fst == x1)
         ((F_disk_Disk_Write (x2, r5.fst.fst, ()) ((x4, ()), x5, x6, ())).bind fun r6 =>
          K (r6.fst, ((r6.snd.fst.fst, ()), (r6.snd.snd.fst, ((), (r6.snd.snd.snd.snd.fst, ()))))))
         ((F_disk_Disk_Write (x1, r5.fst.fst, ()) ((x4, ()), x5, x6, ())).bind fun r7 =>
          K (r7.fst, ((r7.snd.fst.fst, ()), (r7.snd.snd.fst, ((), (r7.snd.snd.snd.snd.fst, ())))))))))))))
noncomputable def F_slot_Begin : A_slot_Begin → M_slot_Begin → Option O_slot_Begin := fun a b => tree_slot_Begin F_disk_Disk_Sectors F_slot_newest F_disk_Disk_Size F_slot_Frame F_disk_Disk_Write a.1 a.2.1 a.2.2.1 b.1.1 b.2.1 b.2.2.1 some
theorem n_slot_Begin (F_disk_Disk_Sectors : A_disk_Disk_Sectors → M_disk_Disk_Sectors → Option O_disk_Disk_Sectors) (F_slot_newest : A_slot_newest → M_slot_newest → Option O_slot_newest) (F_disk_Disk_Size : A_disk_Disk_Size → M_disk_Disk_Size → Option O_disk_Disk_Size) (F_slot_Frame : A_slot_Frame → M_slot_Frame → Option O_slot_Frame) (F_disk_Disk_Write : A_disk_Disk_Write → M_disk_Disk_Write → Option O_disk_Disk_Write) (x1 : Int) (x2 : Int) (x3 : ByteArray) (x4 : Int) (x5 : List ByteArray) (x6 : List (Int × ByteArray)) {α : Type} (K : O_slot_Begin → Option α) : tree_slot_Begin F_disk_Disk_Sectors F_slot_newest F_disk_Disk_Size F_slot_Frame F_disk_Disk_Write x1 x2 x3 x4 x5 x6 K = (tree_slot_Begin F_disk_Disk_Sectors F_slot_newest F_disk_Disk_Size F_slot_Frame F_disk_Disk_Write x1 x2 x3 x4 x5 x6 some).bind K := by simp only [tree_slot_Begin, bind_cond, bind_none', bind_some', bind_bind', bind_sum]
theorem Fe_slot_Begin (x1 : Int) (x2 : Int) (x3 : ByteArray) (x4 : Int) (x5 : List ByteArray) (x6 : List (Int × ByteArray)) : F_slot_Begin (x1, (x2, (x3, ()))) ((x4, ()), (x5, (x6, ()))) = tree_slot_Begin F_disk_Disk_Sectors F_slot_newest F_disk_Disk_Size F_slot_Frame F_disk_Disk_Write x1 x2 x3 x4 x5 x6 some := rfl

/-! countersign/slot.Save -/
def args_slot_Save : SkL := (.cons (.const (.ptr 0 0 0)) (.cons (.leaf (.int .i64)) (.cons (.leaf (.int .i64)) (.cons (.leaf .str) .nil))))
def mem_slot_Save : MSk := [(0, .cells (.cons (.leaf (.int .i64)) (.cons (.const (.slw 1)) (.cons (.const (.slw 2)) .nil)))), (1, .row 9 (.cons .str .nil)), (2, .row 127 (.cons (.int .i64) (.cons .str .nil)))]
def outs_slot_Save : List OutC := [⟨(.leaf .bool), [(0, .cells (.cons (.leaf (.int .i64)) (.cons (.const (.slw 1)) (.cons (.const (.slw 3)) .nil)))), (1, .row 9 (.cons .str .nil)), (2, .gone), (3, .row 127 (.cons (.int .i64) (.cons .str .nil)))]⟩]
abbrev A_slot_Save : Type := (Int × Int × ByteArray × Unit)
abbrev M_slot_Save : Type := ((Int × Unit) × List ByteArray × (List (Int × ByteArray)) × Unit)
abbrev O_slot_Save : Type := Bool × ((Int × Unit) × List ByteArray × Unit × (List (Int × ByteArray)) × Unit)
def tree_slot_Save (F_slot_Begin : A_slot_Begin → M_slot_Begin → Option O_slot_Begin) (F_disk_Disk_Flush : A_disk_Disk_Flush → M_disk_Disk_Flush → Option O_disk_Disk_Flush) {α : Type} (x1 : Int) (x2 : Int) (x3 : ByteArray) (x4 : Int) (x5 : List ByteArray) (x6 : List (Int × ByteArray)) (K : O_slot_Save → Option α) : Option α :=
  (F_slot_Begin (x1, x2, x3, ()) ((x4, ()), x5, x6, ())).bind fun r1 =>
  cond (!r1.fst)
  (K (false, ((r1.snd.fst.fst, ()), (r1.snd.snd.fst, ((), (r1.snd.snd.snd.snd.fst, ()))))))
  ((F_disk_Disk_Flush () ((r1.snd.fst.fst, ()), r1.snd.snd.fst, r1.snd.snd.snd.snd.fst, ())).bind fun r2 =>
   K (true, ((r2.snd.fst.fst, ()), (r2.snd.snd.fst, ((), (r2.snd.snd.snd.snd.fst, ()))))))
noncomputable def F_slot_Save : A_slot_Save → M_slot_Save → Option O_slot_Save := fun a b => tree_slot_Save F_slot_Begin F_disk_Disk_Flush a.1 a.2.1 a.2.2.1 b.1.1 b.2.1 b.2.2.1 some
theorem n_slot_Save (F_slot_Begin : A_slot_Begin → M_slot_Begin → Option O_slot_Begin) (F_disk_Disk_Flush : A_disk_Disk_Flush → M_disk_Disk_Flush → Option O_disk_Disk_Flush) (x1 : Int) (x2 : Int) (x3 : ByteArray) (x4 : Int) (x5 : List ByteArray) (x6 : List (Int × ByteArray)) {α : Type} (K : O_slot_Save → Option α) : tree_slot_Save F_slot_Begin F_disk_Disk_Flush x1 x2 x3 x4 x5 x6 K = (tree_slot_Save F_slot_Begin F_disk_Disk_Flush x1 x2 x3 x4 x5 x6 some).bind K := by simp only [tree_slot_Save, bind_cond, bind_none', bind_some', bind_bind', bind_sum]
theorem Fe_slot_Save (x1 : Int) (x2 : Int) (x3 : ByteArray) (x4 : Int) (x5 : List ByteArray) (x6 : List (Int × ByteArray)) : F_slot_Save (x1, (x2, (x3, ()))) ((x4, ()), (x5, (x6, ()))) = tree_slot_Save F_slot_Begin F_disk_Disk_Flush x1 x2 x3 x4 x5 x6 some := rfl

end Go.Proofs.Ytlfedmjjjbhnpaa.S2
