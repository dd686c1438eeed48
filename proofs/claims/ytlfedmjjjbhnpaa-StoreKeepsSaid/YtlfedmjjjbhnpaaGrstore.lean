/- Plain forms of the program's functions, by program. -/
import Derived.Test.YtlfedmjjjbhnpaaGrslot
import Derived.Test.YtlfedmjjjbhnpaaGrwire
set_option maxRecDepth 100000
set_option maxHeartbeats 0
set_option linter.unusedVariables false
set_option linter.unusedSimpArgs false
namespace Go.Proofs.Ytlfedmjjjbhnpaa.S2
open Go
/-! countersign/countersignref22.Text -/
def args_ref22_Text : SkL := (.cons (.agg (.cons (.leaf (.int .u64)) (.cons (.leaf (.int .u64)) (.cons (.leaf (.int .u64)) (.cons (.leaf (.int .u64)) (.cons (.leaf (.int .u64)) (.cons (.leaf .str) .nil))))))) .nil)
def mem_ref22_Text : MSk := []
def outs_ref22_Text : List OutC := [⟨(.leaf .str), []⟩]
abbrev A_ref22_Text : Type := ((Int × Int × Int × Int × Int × ByteArray × Unit) × Unit)
abbrev M_ref22_Text : Type := Unit
abbrev O_ref22_Text : Type := ByteArray × Unit
def tree_ref22_Text (F_ref01_PutUint : A_ref01_PutUint → M_ref01_PutUint → Option O_ref01_PutUint) (F_ref01_PutText : A_ref01_PutText → M_ref01_PutText → Option O_ref01_PutText) {α : Type} (x1 : Int) (x2 : Int) (x3 : Int) (x4 : Int) (x5 : Int) (x6 : ByteArray) (K : O_ref22_Text → Option α) : Option α :=
  (F_ref01_PutUint (x1, ()) ()).bind fun r1 =>
  (F_ref01_PutUint (x2, ()) ()).bind fun r2 =>
  cond (decide (r1.fst.size + r2.fst.size ≤ 9223372036854775807))
  ((F_ref01_PutUint (x3, ()) ()).bind fun r3 =>
   cond (decide ((r1.fst ++ r2.fst).size + r3.fst.size ≤ 9223372036854775807))
   ((F_ref01_PutUint (x4, ()) ()).bind fun r4 =>
    cond (decide ((r1.fst ++ r2.fst ++ r3.fst).size + r4.fst.size ≤ 9223372036854775807))
    ((F_ref01_PutUint (x5, ()) ()).bind fun r5 =>
     cond (decide ((r1.fst ++ r2.fst ++ r3.fst ++ r4.fst).size + r5.fst.size ≤ 9223372036854775807))
     ((F_ref01_PutText (x6, ()) ()).bind fun r6 =>
      cond (decide ((r1.fst ++ r2.fst ++ r3.fst ++ r4.fst ++ r5.fst).size + r6.fst.size ≤ 9223372036854775807))
      (K (r1.fst ++ r2.fst ++ r3.fst ++ r4.fst ++ r5.fst ++ r6.fst, ()))
      (none))
     (none))
    (none))
   (none))
  (none)
noncomputable def F_ref22_Text : A_ref22_Text → M_ref22_Text → Option O_ref22_Text := fun a b => tree_ref22_Text F_ref01_PutUint F_ref01_PutText a.1.1 a.1.2.1 a.1.2.2.1 a.1.2.2.2.1 a.1.2.2.2.2.1 a.1.2.2.2.2.2.1 some
theorem n_ref22_Text (F_ref01_PutUint : A_ref01_PutUint → M_ref01_PutUint → Option O_ref01_PutUint) (F_ref01_PutText : A_ref01_PutText → M_ref01_PutText → Option O_ref01_PutText) (x1 : Int) (x2 : Int) (x3 : Int) (x4 : Int) (x5 : Int) (x6 : ByteArray) {α : Type} (K : O_ref22_Text → Option α) : tree_ref22_Text F_ref01_PutUint F_ref01_PutText x1 x2 x3 x4 x5 x6 K = (tree_ref22_Text F_ref01_PutUint F_ref01_PutText x1 x2 x3 x4 x5 x6 some).bind K := by simp only [tree_ref22_Text, bind_cond, bind_none', bind_some', bind_bind', bind_sum]
theorem Fe_ref22_Text (x1 : Int) (x2 : Int) (x3 : Int) (x4 : Int) (x5 : Int) (x6 : ByteArray) : F_ref22_Text ((x1, (x2, (x3, (x4, (x5, (x6, ())))))), ()) () = tree_ref22_Text F_ref01_PutUint F_ref01_PutText x1 x2 x3 x4 x5 x6 some := rfl

/-! countersign/countersignref22.Parse -/
def args_ref22_Parse : SkL := (.cons (.leaf .str) .nil)
def mem_ref22_Parse : MSk := []
def outs_ref22_Parse : List OutC := [⟨(.tup (.cons (.agg (.cons (.leaf (.int .u64)) (.cons (.leaf (.int .u64)) (.cons (.leaf (.int .u64)) (.cons (.leaf (.int .u64)) (.cons (.leaf (.int .u64)) (.cons (.leaf .str) .nil))))))) (.cons (.leaf .bool) .nil))), []⟩]
abbrev A_ref22_Parse : Type := (ByteArray × Unit)
abbrev M_ref22_Parse : Type := Unit
abbrev O_ref22_Parse : Type := ((Int × Int × Int × Int × Int × ByteArray × Unit) × Bool × Unit) × Unit
def tree_ref22_Parse (F_ref13_Numbers : A_ref13_Numbers → M_ref13_Numbers → Option O_ref13_Numbers) (F_ref01_TakeText : A_ref01_TakeText → M_ref01_TakeText → Option O_ref01_TakeText) {α : Type} (x1 : ByteArray) (K : O_ref22_Parse → Option α) : Option α :=
  (F_ref13_Numbers (x1, 5, ()) ()).bind fun r1 =>
  cond (!r1.fst.snd.snd.fst)
  (K (((0, (0, (0, (0, (0, (ByteArray.empty, ())))))), (false, ())), ()))
  ((F_ref01_TakeText (r1.fst.snd.fst, (↑r1.fst.snd.fst.size : Int), ()) ()).bind fun r2 =>
   cond (decide (0 < (↑r1.fst.fst.length : Int)))
   (cond (decide (1 < (↑r1.fst.fst.length : Int)))
    (cond (decide (2 < (↑r1.fst.fst.length : Int)))
     (cond (decide (3 < (↑r1.fst.fst.length : Int)))
      (cond (decide (4 < (↑r1.fst.fst.length : Int)))
       (cond (r1.fst.fst.getD 3 0 == 0)
        (cond (r1.fst.fst.getD 4 0 == 0)
         (cond (!r2.fst.snd.snd.fst)
          (K (((0, (0, (0, (0, (0, (ByteArray.empty, ())))))), (false, ())), ()))
          (cond (!r2.fst.snd.fst.toList == ByteArray.empty.toList)
           (K (((0, (0, (0, (0, (0, (ByteArray.empty, ())))))), (false, ())), ()))
           (cond (decide (r1.fst.fst.getD 2 0 > 1))
            (K (((0, (0, (0, (0, (0, (ByteArray.empty, ())))))), (false, ())), ()))
            (cond (r1.fst.fst.getD 2 0 == 0)
             (cond (!r2.fst.fst.toList == ByteArray.empty.toList)
              (K (((0, (0, (0, (0, (0, (ByteArray.empty, ())))))), (false, ())), ()))
              (K (((r1.fst.fst.getD 0 0, (r1.fst.fst.getD 1 0, (r1.fst.fst.getD 2 0, (r1.fst.fst.getD 3 0, (r1.fst.fst.getD 4 0, (r2.fst.fst, ())))))), (true, ())), ())))
             (K (((r1.fst.fst.getD 0 0, (r1.fst.fst.getD 1 0, (r1.fst.fst.getD 2 0, (r1.fst.fst.getD 3 0, (r1.fst.fst.getD 4 0, (r2.fst.fst, ())))))), (true, ())), ()))))))
         (cond (!r2.fst.snd.snd.fst)
          (K (((0, (0, (0, (0, (0, (ByteArray.empty, ())))))), (false, ())), ()))
          (cond (!r2.fst.snd.fst.toList == ByteArray.empty.toList)
           (K (((0, (0, (0, (0, (0, (ByteArray.empty, ())))))), (false, ())), ()))
           (cond (decide (r1.fst.fst.getD 2 0 > 1))
            (K (((0, (0, (0, (0, (0, (ByteArray.empty, ())))))), (false, ())), ()))
            (cond (r1.fst.fst.getD 2 0 == 0)
             (K (((0, (0, (0, (0, (0, (ByteArray.empty, ())))))), (false, ())), ()))
             (K (((r1.fst.fst.getD 0 0, (r1.fst.fst.getD 1 0, (r1.fst.fst.getD 2 0, (r1.fst.fst.getD 3 0, (r1.fst.fst.getD 4 0, (r2.fst.fst, ())))))), (true, ())), ())))))))
        (cond (!r2.fst.snd.snd.fst)
         (K (((0, (0, (0, (0, (0, (ByteArray.empty, ())))))), (false, ())), ()))
         (cond (!r2.fst.snd.fst.toList == ByteArray.empty.toList)
          (K (((0, (0, (0, (0, (0, (ByteArray.empty, ())))))), (false, ())), ()))
          (cond (decide (r1.fst.fst.getD 2 0 > 1))
           (K (((0, (0, (0, (0, (0, (ByteArray.empty, ())))))), (false, ())), ()))
           (cond (r1.fst.fst.getD 2 0 == 0)
            (K (((0, (0, (0, (0, (0, (ByteArray.empty, ())))))), (false, ())), ()))
            (K (((r1.fst.fst.getD 0 0, (r1.fst.fst.getD 1 0, (r1.fst.fst.getD 2 0, (r1.fst.fst.getD 3 0, (r1.fst.fst.getD 4 0, (r2.fst.fst, ())))))), (true, ())), ())))))))
       (none))
      (none))
     (none))
    (none))
   (none))
noncomputable def F_ref22_Parse : A_ref22_Parse → M_ref22_Parse → Option O_ref22_Parse := fun a b => tree_ref22_Parse F_ref13_Numbers F_ref01_TakeText a.1 some
theorem n_ref22_Parse (F_ref13_Numbers : A_ref13_Numbers → M_ref13_Numbers → Option O_ref13_Numbers) (F_ref01_TakeText : A_ref01_TakeText → M_ref01_TakeText → Option O_ref01_TakeText) (x1 : ByteArray) {α : Type} (K : O_ref22_Parse → Option α) : tree_ref22_Parse F_ref13_Numbers F_ref01_TakeText x1 K = (tree_ref22_Parse F_ref13_Numbers F_ref01_TakeText x1 some).bind K := by simp only [tree_ref22_Parse, bind_cond, bind_none', bind_some', bind_bind', bind_sum]
theorem Fe_ref22_Parse (x1 : ByteArray) : F_ref22_Parse (x1, ()) () = tree_ref22_Parse F_ref13_Numbers F_ref01_TakeText x1 some := rfl

/-! countersign/countersignref22.Trust -/
def args_ref22_Trust : SkL := (.cons (.const (.ptr 0 0 0)) .nil)
def mem_ref22_Trust : MSk := [(0, .cells (.cons (.leaf (.int .i64)) (.cons (.const (.slw 1)) (.cons (.const (.slw 2)) .nil)))), (1, .row 9 (.cons .str .nil)), (2, .row 114 (.cons (.int .i64) (.cons (.int .i64) (.cons .str (.cons (.slc 3 (.cons (.int .i64) .nil)) .nil)))))]
def outs_ref22_Trust : List OutC := [⟨(.tup (.cons (.agg (.cons (.leaf (.int .u64)) (.cons (.leaf (.int .u64)) (.cons (.leaf (.int .u64)) (.cons (.leaf (.int .u64)) (.cons (.leaf (.int .u64)) (.cons (.leaf .str) .nil))))))) (.cons (.leaf .bool) .nil))), []⟩]
abbrev A_ref22_Trust : Type := Unit
abbrev M_ref22_Trust : Type := ((Int × Unit) × List ByteArray × (List (Int × Int × ByteArray × List Int)) × Unit)
abbrev O_ref22_Trust : Type := ((Int × Int × Int × Int × Int × ByteArray × Unit) × Bool × Unit) × Unit
def routs_ref22_Trust : List OutC := [⟨(.tup (.cons (.agg (.cons (.leaf (.int .u64)) (.cons (.leaf (.int .u64)) (.cons (.leaf (.int .u64)) (.cons (.leaf (.int .u64)) (.cons (.leaf (.int .u64)) (.cons (.leaf .str) .nil))))))) (.cons (.leaf .bool) .nil))), [(0, .cells (.cons (.leaf (.int .i64)) (.cons (.const (.slw 1)) (.cons (.const (.slw 2)) .nil)))), (1, .row 9 (.cons .str .nil)), (2, .row 114 (.cons (.int .i64) (.cons (.int .i64) (.cons .str (.cons (.slc 3 (.cons (.int .i64) .nil)) .nil)))))]⟩]
abbrev RO_ref22_Trust : Type := ((Int × Int × Int × Int × Int × ByteArray × Unit) × Bool × Unit) × ((Int × Unit) × List ByteArray × (List (Int × Int × ByteArray × List Int)) × Unit)
def tree_ref22_Trust (F_ref09_Load : A_ref09_Load → M_ref09_Load → Option O_ref09_Load) (F_ref22_Parse : A_ref22_Parse → M_ref22_Parse → Option O_ref22_Parse) {α : Type} (x1 : Int) (x2 : List ByteArray) (x3 : List (Int × Int × ByteArray × List Int)) (K : RO_ref22_Trust → Option α) : Option α :=
  (F_ref09_Load (0, 1, ()) ((x1, ()), x2, x3, ())).bind fun r1 =>
  cond (r1.fst.fst == 0)
  (K (((0, (0, (0, (0, (0, (ByteArray.empty, ())))))), (false, ())), ((x1, ()), (x2, (x3, ())))))
  ((F_ref22_Parse (r1.fst.snd.fst, ()) ()).bind fun r2 =>
   K (((r2.fst.fst.fst, (r2.fst.fst.snd.fst, (r2.fst.fst.snd.snd.fst, (r2.fst.fst.snd.snd.snd.fst, (r2.fst.fst.snd.snd.snd.snd.fst, (r2.fst.fst.snd.snd.snd.snd.snd.fst, ())))))), (r2.fst.snd.fst, ())), ((x1, ()), (x2, (x3, ())))))
noncomputable def R_ref22_Trust : A_ref22_Trust → M_ref22_Trust → Option RO_ref22_Trust := fun a b => tree_ref22_Trust F_ref09_Load F_ref22_Parse b.1.1 b.2.1 b.2.2.1 some
theorem reads_ref22_Trust (a : A_ref22_Trust) (b : M_ref22_Trust) : Leaf (fun r : RO_ref22_Trust => r.2 = b) (R_ref22_Trust a b) := by
  show Leaf _ (tree_ref22_Trust F_ref09_Load F_ref22_Parse b.1.1 b.2.1 b.2.2.1 some)
  unfold tree_ref22_Trust
  repeat (first | (with_reducible refine leaf_bind fun _ => ?_) | (with_reducible apply leaf_cond) | (with_reducible refine leaf_sum (fun _ => ?_) (fun _ => ?_)) | (with_reducible exact leaf_none) | exact leaf_some rfl)
noncomputable def F_ref22_Trust : A_ref22_Trust → M_ref22_Trust → Option O_ref22_Trust := fun a b => (R_ref22_Trust a b).map fun r => (r.1, ())
theorem n_ref22_Trust (F_ref09_Load : A_ref09_Load → M_ref09_Load → Option O_ref09_Load) (F_ref22_Parse : A_ref22_Parse → M_ref22_Parse → Option O_ref22_Parse) (x1 : Int) (x2 : List ByteArray) (x3 : List (Int × Int × ByteArray × List Int)) {α : Type} (K : RO_ref22_Trust → Option α) : tree_ref22_Trust F_ref09_Load F_ref22_Parse x1 x2 x3 K = (tree_ref22_Trust F_ref09_Load F_ref22_Parse x1 x2 x3 some).bind K := by simp only [tree_ref22_Trust, bind_cond, bind_none', bind_some', bind_bind', bind_sum]
theorem Fe_ref22_Trust (x1 : Int) (x2 : List ByteArray) (x3 : List (Int × Int × ByteArray × List Int)) : F_ref22_Trust () ((x1, ()), (x2, (x3, ()))) = (tree_ref22_Trust F_ref09_Load F_ref22_Parse x1 x2 x3 some).map fun r => (r.1, ()) := rfl

/-! countersign/countersignref22.save -/
def args_ref22_save : SkL := (.cons (.const (.ptr 0 0 0)) (.cons (.agg (.cons (.leaf (.int .u64)) (.cons (.leaf (.int .u64)) (.cons (.leaf (.int .u64)) (.cons (.leaf (.int .u64)) (.cons (.leaf (.int .u64)) (.cons (.leaf .str) .nil))))))) .nil))
def mem_ref22_save : MSk := [(0, .cells (.cons (.leaf (.int .i64)) (.cons (.const (.slw 1)) (.cons (.const (.slw 2)) .nil)))), (1, .row 9 (.cons .str .nil)), (2, .row 114 (.cons (.int .i64) (.cons (.int .i64) (.cons .str (.cons (.slc 3 (.cons (.int .i64) .nil)) .nil)))))]
def outs_ref22_save : List OutC := [⟨(.leaf .bool), [(0, .cells (.cons (.leaf (.int .i64)) (.cons (.const (.slw 1)) (.cons (.const (.slw 3)) .nil)))), (1, .row 9 (.cons .str .nil)), (2, .gone), (3, .row 114 (.cons (.int .i64) (.cons (.int .i64) (.cons .str (.cons (.slc 3 (.cons (.int .i64) .nil)) .nil)))))]⟩]
abbrev A_ref22_save : Type := ((Int × Int × Int × Int × Int × ByteArray × Unit) × Unit)
abbrev M_ref22_save : Type := ((Int × Unit) × List ByteArray × (List (Int × Int × ByteArray × List Int)) × Unit)
abbrev O_ref22_save : Type := Bool × ((Int × Unit) × List ByteArray × Unit × (List (Int × Int × ByteArray × List Int)) × Unit)
def tree_ref22_save (F_ref22_Text : A_ref22_Text → M_ref22_Text → Option O_ref22_Text) (F_ref09_Begin : A_ref09_Begin → M_ref09_Begin → Option O_ref09_Begin) (F_ref08_Disk_Flush : A_ref08_Disk_Flush → M_ref08_Disk_Flush → Option O_ref08_Disk_Flush) {α : Type} (x1 : Int) (x2 : Int) (x3 : Int) (x4 : Int) (x5 : Int) (x6 : ByteArray) (x7 : Int) (x8 : List ByteArray) (x9 : List (Int × Int × ByteArray × List Int)) (K : O_ref22_save → Option α) : Option α :=
  (F_ref22_Text ((x1, x2, x3, x4, x5, x6, ()), ()) ()).bind fun r1 =>
  (F_ref09_Begin (0, 1, r1.fst, ()) ((x7, ()), x8, x9, ())).bind fun r2 =>
  cond (!r2.fst)
  (K (false, ((r2.snd.fst.fst, ()), (r2.snd.snd.fst, ((), (r2.snd.snd.snd.snd.fst, ()))))))
  ((F_ref08_Disk_Flush () ((r2.snd.fst.fst, ()), r2.snd.snd.fst, r2.snd.snd.snd.snd.fst, ())).bind fun r3 =>
   K (true, ((r3.snd.fst.fst, ()), (r3.snd.snd.fst, ((), (r3.snd.snd.snd.snd.fst, ()))))))
noncomputable def F_ref22_save : A_ref22_save → M_ref22_save → Option O_ref22_save := fun a b => tree_ref22_save F_ref22_Text F_ref09_Begin F_ref08_Disk_Flush a.1.1 a.1.2.1 a.1.2.2.1 a.1.2.2.2.1 a.1.2.2.2.2.1 a.1.2.2.2.2.2.1 b.1.1 b.2.1 b.2.2.1 some
theorem n_ref22_save (F_ref22_Text : A_ref22_Text → M_ref22_Text → Option O_ref22_Text) (F_ref09_Begin : A_ref09_Begin → M_ref09_Begin → Option O_ref09_Begin) (F_ref08_Disk_Flush : A_ref08_Disk_Flush → M_ref08_Disk_Flush → Option O_ref08_Disk_Flush) (x1 : Int) (x2 : Int) (x3 : Int) (x4 : Int) (x5 : Int) (x6 : ByteArray) (x7 : Int) (x8 : List ByteArray) (x9 : List (Int × Int × ByteArray × List Int)) {α : Type} (K : O_ref22_save → Option α) : tree_ref22_save F_ref22_Text F_ref09_Begin F_ref08_Disk_Flush x1 x2 x3 x4 x5 x6 x7 x8 x9 K = (tree_ref22_save F_ref22_Text F_ref09_Begin F_ref08_Disk_Flush x1 x2 x3 x4 x5 x6 x7 x8 x9 some).bind K := by simp only [tree_ref22_save, bind_cond, bind_none', bind_some', bind_bind', bind_sum]
theorem Fe_ref22_save (x1 : Int) (x2 : Int) (x3 : Int) (x4 : Int) (x5 : Int) (x6 : ByteArray) (x7 : Int) (x8 : List ByteArray) (x9 : List (Int × Int × ByteArray × List Int)) : F_ref22_save ((x1, (x2, (x3, (x4, (x5, (x6, ())))))), ()) ((x7, ()), (x8, (x9, ()))) = tree_ref22_save F_ref22_Text F_ref09_Begin F_ref08_Disk_Flush x1 x2 x3 x4 x5 x6 x7 x8 x9 some := rfl

/-! countersign/countersignref22.Reset -/
def args_ref22_Reset : SkL := (.cons (.const (.ptr 0 0 0)) (.cons (.leaf (.int .u64)) .nil))
def mem_ref22_Reset : MSk := [(0, .cells (.cons (.leaf (.int .i64)) (.cons (.const (.slw 1)) (.cons (.const (.slw 2)) .nil)))), (1, .row 9 (.cons .str .nil)), (2, .row 114 (.cons (.int .i64) (.cons (.int .i64) (.cons .str (.cons (.slc 3 (.cons (.int .i64) .nil)) .nil)))))]
def outs_ref22_Reset : List OutC := [⟨(.leaf .bool), [(0, .cells (.cons (.leaf (.int .i64)) (.cons (.const (.slw 1)) (.cons (.const (.slw 3)) .nil)))), (1, .row 9 (.cons .str .nil)), (2, .gone), (3, .row 114 (.cons (.int .i64) (.cons (.int .i64) (.cons .str (.cons (.slc 3 (.cons (.int .i64) .nil)) .nil)))))]⟩]
abbrev A_ref22_Reset : Type := (Int × Unit)
abbrev M_ref22_Reset : Type := ((Int × Unit) × List ByteArray × (List (Int × Int × ByteArray × List Int)) × Unit)
abbrev O_ref22_Reset : Type := Bool × ((Int × Unit) × List ByteArray × Unit × (List (Int × Int × ByteArray × List Int)) × Unit)
def tree_ref22_Reset (F_ref22_save : A_ref22_save → M_ref22_save → Option O_ref22_save) {α : Type} (x1 : Int) (x2 : Int) (x3 : List ByteArray) (x4 : List (Int × Int × ByteArray × List Int)) (K : O_ref22_Reset → Option α) : Option α :=
  (F_ref22_save ((x1, 0, 0, 0, 0, ByteArray.empty, ()), ()) ((x2, ()), x3, x4, ())).bind fun r1 =>
  K (r1.fst, ((r1.snd.fst.fst, ()), (r1.snd.snd.fst, ((), (r1.snd.snd.snd.snd.fst, ())))))
noncomputable def F_ref22_Reset : A_ref22_Reset → M_ref22_Reset → Option O_ref22_Reset := fun a b => tree_ref22_Reset F_ref22_save a.1 b.1.1 b.2.1 b.2.2.1 some
theorem n_ref22_Reset (F_ref22_save : A_ref22_save → M_ref22_save → Option O_ref22_save) (x1 : Int) (x2 : Int) (x3 : List ByteArray) (x4 : List (Int × Int × ByteArray × List Int)) {α : Type} (K : O_ref22_Reset → Option α) : tree_ref22_Reset F_ref22_save x1 x2 x3 x4 K = (tree_ref22_Reset F_ref22_save x1 x2 x3 x4 some).bind K := by simp only [tree_ref22_Reset, bind_cond, bind_none', bind_some', bind_bind', bind_sum]
theorem Fe_ref22_Reset (x1 : Int) (x2 : Int) (x3 : List ByteArray) (x4 : List (Int × Int × ByteArray × List Int)) : F_ref22_Reset (x1, ()) ((x2, ()), (x3, (x4, ()))) = tree_ref22_Reset F_ref22_save x1 x2 x3 x4 some := rfl

/-! countersign/countersignref22.Intend -/
def args_ref22_Intend : SkL := (.cons (.const (.ptr 0 0 0)) (.cons (.leaf (.int .u64)) (.cons (.leaf .str) (.cons (.leaf (.int .u64)) .nil))))
def mem_ref22_Intend : MSk := [(0, .cells (.cons (.leaf (.int .i64)) (.cons (.const (.slw 1)) (.cons (.const (.slw 2)) .nil)))), (1, .row 9 (.cons .str .nil)), (2, .row 114 (.cons (.int .i64) (.cons (.int .i64) (.cons .str (.cons (.slc 3 (.cons (.int .i64) .nil)) .nil)))))]
def outs_ref22_Intend : List OutC := [⟨(.leaf .bool), [(0, .cells (.cons (.leaf (.int .i64)) (.cons (.const (.slw 1)) (.cons (.const (.slw 3)) .nil)))), (1, .row 9 (.cons .str .nil)), (2, .gone), (3, .row 114 (.cons (.int .i64) (.cons (.int .i64) (.cons .str (.cons (.slc 3 (.cons (.int .i64) .nil)) .nil)))))]⟩]
abbrev A_ref22_Intend : Type := (Int × ByteArray × Int × Unit)
abbrev M_ref22_Intend : Type := ((Int × Unit) × List ByteArray × (List (Int × Int × ByteArray × List Int)) × Unit)
abbrev O_ref22_Intend : Type := Bool × ((Int × Unit) × List ByteArray × Unit × (List (Int × Int × ByteArray × List Int)) × Unit)
def tree_ref22_Intend (F_ref22_Trust : A_ref22_Trust → M_ref22_Trust → Option O_ref22_Trust) (F_ref22_save : A_ref22_save → M_ref22_save → Option O_ref22_save) {α : Type} (x1 : Int) (x2 : ByteArray) (x3 : Int) (x4 : Int) (x5 : List ByteArray) (x6 : List (Int × Int × ByteArray × List Int)) (K : O_ref22_Intend → Option α) : Option α :=
  (F_ref22_Trust () ((x4, ()), x5, x6, ())).bind fun r1 =>
  cond (!r1.fst.snd.fst)
  (K (false, ((x4, ()), (x5, ((), (x6, ()))))))
  (cond (r1.fst.fst.snd.snd.fst != 0)
   (K (false, ((x4, ()), (x5, ((), (x6, ()))))))
   ((F_ref22_save ((r1.fst.fst.fst, r1.fst.fst.snd.fst, 1, x1, x3, x2, ()), ()) ((x4, ()), x5, x6, ())).bind fun r2 =>
    K (r2.fst, ((r2.snd.fst.fst, ()), (r2.snd.snd.fst, ((), (r2.snd.snd.snd.snd.fst, ())))))))
noncomputable def F_ref22_Intend : A_ref22_Intend → M_ref22_Intend → Option O_ref22_Intend := fun a b => tree_ref22_Intend F_ref22_Trust F_ref22_save a.1 a.2.1 a.2.2.1 b.1.1 b.2.1 b.2.2.1 some
theorem n_ref22_Intend (F_ref22_Trust : A_ref22_Trust → M_ref22_Trust → Option O_ref22_Trust) (F_ref22_save : A_ref22_save → M_ref22_save → Option O_ref22_save) (x1 : Int) (x2 : ByteArray) (x3 : Int) (x4 : Int) (x5 : List ByteArray) (x6 : List (Int × Int × ByteArray × List Int)) {α : Type} (K : O_ref22_Intend → Option α) : tree_ref22_Intend F_ref22_Trust F_ref22_save x1 x2 x3 x4 x5 x6 K = (tree_ref22_Intend F_ref22_Trust F_ref22_save x1 x2 x3 x4 x5 x6 some).bind K := by simp only [tree_ref22_Intend, bind_cond, bind_none', bind_some', bind_bind', bind_sum]
theorem Fe_ref22_Intend (x1 : Int) (x2 : ByteArray) (x3 : Int) (x4 : Int) (x5 : List ByteArray) (x6 : List (Int × Int × ByteArray × List Int)) : F_ref22_Intend (x1, (x2, (x3, ()))) ((x4, ()), (x5, (x6, ()))) = tree_ref22_Intend F_ref22_Trust F_ref22_save x1 x2 x3 x4 x5 x6 some := rfl

/-! countersign/countersignref22.Settle -/
def args_ref22_Settle : SkL := (.cons (.const (.ptr 0 0 0)) (.cons (.leaf .bool) .nil))
def mem_ref22_Settle : MSk := [(0, .cells (.cons (.leaf (.int .i64)) (.cons (.const (.slw 1)) (.cons (.const (.slw 2)) .nil)))), (1, .row 9 (.cons .str .nil)), (2, .row 114 (.cons (.int .i64) (.cons (.int .i64) (.cons .str (.cons (.slc 3 (.cons (.int .i64) .nil)) .nil)))))]
def outs_ref22_Settle : List OutC := [⟨(.leaf .bool), [(0, .cells (.cons (.leaf (.int .i64)) (.cons (.const (.slw 1)) (.cons (.const (.slw 3)) .nil)))), (1, .row 9 (.cons .str .nil)), (2, .gone), (3, .row 114 (.cons (.int .i64) (.cons (.int .i64) (.cons .str (.cons (.slc 3 (.cons (.int .i64) .nil)) .nil)))))]⟩]
abbrev A_ref22_Settle : Type := (Bool × Unit)
abbrev M_ref22_Settle : Type := ((Int × Unit) × List ByteArray × (List (Int × Int × ByteArray × List Int)) × Unit)
abbrev O_ref22_Settle : Type := Bool × ((Int × Unit) × List ByteArray × Unit × (List (Int × Int × ByteArray × List Int)) × Unit)
def tree_ref22_Settle (F_ref22_Trust : A_ref22_Trust → M_ref22_Trust → Option O_ref22_Trust) (F_ref22_save : A_ref22_save → M_ref22_save → Option O_ref22_save) {α : Type} (x1 : Bool) (x2 : Int) (x3 : List ByteArray) (x4 : List (Int × Int × ByteArray × List Int)) (K : O_ref22_Settle → Option α) : Option α :=
  (F_ref22_Trust () ((x2, ()), x3, x4, ())).bind fun r1 =>
  cond (!r1.fst.snd.fst)
  (K (false, ((x2, ()), (x3, ((), (x4, ()))))))
  (cond (r1.fst.fst.snd.snd.fst != 1)
   (K (false, ((x2, ()), (x3, ((), (x4, ()))))))
   (cond (!x1)
    ((F_ref22_save ((r1.fst.fst.fst, r1.fst.fst.snd.fst, 0, 0, 0, ByteArray.empty, ()), ())   ((x2, ()), x3, x4, ())).bind fun r2 =>
     K (r2.fst, ((r2.snd.fst.fst, ()), (r2.snd.snd.fst, ((), (r2.snd.snd.snd.snd.fst, ()))))))
    (cond (IntKind.u64.wrap (r1.fst.fst.snd.fst + 1) == 0)
     (K (false, ((x2, ()), (x3, ((), (x4, ()))))))
     ((F_ref22_save   ((r1.fst.fst.snd.snd.snd.snd.fst, IntKind.u64.wrap (r1.fst.fst.snd.fst + 1), 0, 0, 0, ByteArray.empty, ()), ())   ((x2, ()), x3, x4, ())).bind fun r3 =>
      K (r3.fst, ((r3.snd.fst.fst, ()), (r3.snd.snd.fst, ((), (r3.snd.snd.snd.snd.fst, ())))))))))
noncomputable def F_ref22_Settle : A_ref22_Settle → M_ref22_Settle → Option O_ref22_Settle := fun a b => tree_ref22_Settle F_ref22_Trust F_ref22_save a.1 b.1.1 b.2.1 b.2.2.1 some
theorem n_ref22_Settle (F_ref22_Trust : A_ref22_Trust → M_ref22_Trust → Option O_ref22_Trust) (F_ref22_save : A_ref22_save → M_ref22_save → Option O_ref22_save) (x1 : Bool) (x2 : Int) (x3 : List ByteArray) (x4 : List (Int × Int × ByteArray × List Int)) {α : Type} (K : O_ref22_Settle → Option α) : tree_ref22_Settle F_ref22_Trust F_ref22_save x1 x2 x3 x4 K = (tree_ref22_Settle F_ref22_Trust F_ref22_save x1 x2 x3 x4 some).bind K := by simp only [tree_ref22_Settle, bind_cond, bind_none', bind_some', bind_bind', bind_sum]
theorem Fe_ref22_Settle (x1 : Bool) (x2 : Int) (x3 : List ByteArray) (x4 : List (Int × Int × ByteArray × List Int)) : F_ref22_Settle (x1, ()) ((x2, ()), (x3, (x4, ()))) = tree_ref22_Settle F_ref22_Trust F_ref22_save x1 x2 x3 x4 some := rfl

end Go.Proofs.Ytlfedmjjjbhnpaa.S2
