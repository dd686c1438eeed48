/- Plain forms of the program's functions, by program. -/
import Derived.Test.YtlfedmjjjbhnpaaS2y
import Derived.Lib.Repeat
set_option maxRecDepth 100000
set_option maxHeartbeats 0
set_option linter.unusedVariables false
set_option linter.unusedSimpArgs false
namespace Go.Proofs.Ytlfedmjjjbhnpaa.S2
open Go
/-! countersign/countersignref08.Zeros -/
def args_ref08_Zeros : SkL := (.cons (.leaf (.int .i64)) .nil)
def mem_ref08_Zeros : MSk := []
def outs_ref08_Zeros : List OutC := [⟨(.leaf .str), []⟩]
abbrev A_ref08_Zeros : Type := (Int × Unit)
abbrev M_ref08_Zeros : Type := Unit
abbrev O_ref08_Zeros : Type := ByteArray × Unit
def tree_ref08_Zeros {α : Type} (x1 : Int) (K : O_ref08_Zeros → Option α) : Option α :=
  cond (decide (0 ≤ x1))
  (cond (decide (x1 ≤ x1))
   (cond (decide (x1 * 1 ≤ 140737488355328))
    (K (Go.strOfNums (List.replicate x1.toNat 0), ()))
    (none))
   (none))
  (none)
noncomputable def F_ref08_Zeros : A_ref08_Zeros → M_ref08_Zeros → Option O_ref08_Zeros := fun a b => tree_ref08_Zeros a.1 some
theorem n_ref08_Zeros (x1 : Int) {α : Type} (K : O_ref08_Zeros → Option α) : tree_ref08_Zeros x1 K = (tree_ref08_Zeros x1 some).bind K := by simp only [tree_ref08_Zeros, bind_cond, bind_none', bind_some', bind_bind', bind_sum]
theorem Fe_ref08_Zeros (x1 : Int) : F_ref08_Zeros (x1, ()) () = tree_ref08_Zeros x1 some := rfl

def args_strings_Repeat : SkL := .cons (.leaf .str) (.cons (.leaf (.int .i64)) .nil)
def mem_strings_Repeat : MSk := []
def outs_strings_Repeat : List OutC := [⟨.leaf .str, []⟩]
abbrev A_strings_Repeat : Type := ByteArray × Int × Unit
abbrev M_strings_Repeat : Type := Unit
abbrev O_strings_Repeat : Type := ByteArray × Unit
def F_strings_Repeat : A_strings_Repeat → M_strings_Repeat → Option O_strings_Repeat := fun a b => cond (decide (0 ≤ a.2.1 ∧ a.2.1 ≤ 9223372036854775807 ∧ a.1.size * a.2.1.toNat ≤ 140737488355328)) (some (⟨(Go.Lib.repeatL a.1.data.toList a.2.1.toNat).toArray⟩, ())) none

/-! (*countersign/disk.Disk).Sectors -/
def args_disk_Disk_Sectors : SkL := (.cons (.const (.ptr 0 0 0)) .nil)
def mem_disk_Disk_Sectors : MSk := [(0, .cells (.cons (.leaf (.int .i64)) (.cons (.const (.slw 1)) (.cons (.const (.slw 2)) .nil)))), (1, .row 9 (.cons .str .nil)), (2, .row 127 (.cons (.int .i64) (.cons .str .nil)))]
def outs_disk_Disk_Sectors : List OutC := [⟨(.leaf (.int .i64)), []⟩]
abbrev A_disk_Disk_Sectors : Type := Unit
abbrev M_disk_Disk_Sectors : Type := ((Int × Unit) × List ByteArray × (List (Int × ByteArray)) × Unit)
abbrev O_disk_Disk_Sectors : Type := Int × Unit
def routs_disk_Disk_Sectors : List OutC := [⟨(.leaf (.int .i64)), [(0, .cells (.cons (.leaf (.int .i64)) (.cons (.const (.slw 1)) (.cons (.const (.slw 2)) .nil)))), (1, .row 9 (.cons .str .nil)), (2, .row 127 (.cons (.int .i64) (.cons .str .nil)))]⟩]
abbrev RO_disk_Disk_Sectors : Type := Int × ((Int × Unit) × List ByteArray × (List (Int × ByteArray)) × Unit)
def tree_disk_Disk_Sectors {α : Type} (x1 : Int) (x2 : List ByteArray) (x3 : List (Int × ByteArray)) (K : RO_disk_Disk_Sectors → Option α) : Option α :=
  K ((↑x2.length : Int), ((x1, ()), (x2, (x3, ()))))
noncomputable def R_disk_Disk_Sectors : A_disk_Disk_Sectors → M_disk_Disk_Sectors → Option RO_disk_Disk_Sectors := fun a b => tree_disk_Disk_Sectors b.1.1 b.2.1 b.2.2.1 some
theorem reads_disk_Disk_Sectors (a : A_disk_Disk_Sectors) (b : M_disk_Disk_Sectors) : Leaf (fun r : RO_disk_Disk_Sectors => r.2 = b) (R_disk_Disk_Sectors a b) := by
  show Leaf _ (tree_disk_Disk_Sectors b.1.1 b.2.1 b.2.2.1 some)
  unfold tree_disk_Disk_Sectors
  repeat (first | (with_reducible refine leaf_bind fun _ => ?_) | (with_reducible apply leaf_cond) | (with_reducible refine leaf_sum (fun _ => ?_) (fun _ => ?_)) | (with_reducible exact leaf_none) | exact leaf_some rfl)
noncomputable def F_disk_Disk_Sectors : A_disk_Disk_Sectors → M_disk_Disk_Sectors → Option O_disk_Disk_Sectors := fun a b => (R_disk_Disk_Sectors a b).map fun r => (r.1, ())
theorem n_disk_Disk_Sectors (x1 : Int) (x2 : List ByteArray) (x3 : List (Int × ByteArray)) {α : Type} (K : RO_disk_Disk_Sectors → Option α) : tree_disk_Disk_Sectors x1 x2 x3 K = (tree_disk_Disk_Sectors x1 x2 x3 some).bind K := by simp only [tree_disk_Disk_Sectors, bind_cond, bind_none', bind_some', bind_bind', bind_sum]
theorem Fe_disk_Disk_Sectors (x1 : Int) (x2 : List ByteArray) (x3 : List (Int × ByteArray)) : F_disk_Disk_Sectors () ((x1, ()), (x2, (x3, ()))) = (tree_disk_Disk_Sectors x1 x2 x3 some).map fun r => (r.1, ()) := rfl

/-! (*countersign/disk.Disk).Size -/
def args_disk_Disk_Size : SkL := (.cons (.const (.ptr 0 0 0)) .nil)
def mem_disk_Disk_Size : MSk := [(0, .cells (.cons (.leaf (.int .i64)) (.cons (.const (.slw 1)) (.cons (.const (.slw 2)) .nil)))), (1, .row 9 (.cons .str .nil)), (2, .row 127 (.cons (.int .i64) (.cons .str .nil)))]
def outs_disk_Disk_Size : List OutC := [⟨(.leaf (.int .i64)), []⟩]
abbrev A_disk_Disk_Size : Type := Unit
abbrev M_disk_Disk_Size : Type := ((Int × Unit) × List ByteArray × (List (Int × ByteArray)) × Unit)
abbrev O_disk_Disk_Size : Type := Int × Unit
def routs_disk_Disk_Size : List OutC := [⟨(.leaf (.int .i64)), [(0, .cells (.cons (.leaf (.int .i64)) (.cons (.const (.slw 1)) (.cons (.const (.slw 2)) .nil)))), (1, .row 9 (.cons .str .nil)), (2, .row 127 (.cons (.int .i64) (.cons .str .nil)))]⟩]
abbrev RO_disk_Disk_Size : Type := Int × ((Int × Unit) × List ByteArray × (List (Int × ByteArray)) × Unit)
def tree_disk_Disk_Size {α : Type} (x1 : Int) (x2 : List ByteArray) (x3 : List (Int × ByteArray)) (K : RO_disk_Disk_Size → Option α) : Option α :=
  K (x1, ((x1, ()), (x2, (x3, ()))))
noncomputable def R_disk_Disk_Size : A_disk_Disk_Size → M_disk_Disk_Size → Option RO_disk_Disk_Size := fun a b => tree_disk_Disk_Size b.1.1 b.2.1 b.2.2.1 some
theorem reads_disk_Disk_Size (a : A_disk_Disk_Size) (b : M_disk_Disk_Size) : Leaf (fun r : RO_disk_Disk_Size => r.2 = b) (R_disk_Disk_Size a b) := by
  show Leaf _ (tree_disk_Disk_Size b.1.1 b.2.1 b.2.2.1 some)
  unfold tree_disk_Disk_Size
  repeat (first | (with_reducible refine leaf_bind fun _ => ?_) | (with_reducible apply leaf_cond) | (with_reducible refine leaf_sum (fun _ => ?_) (fun _ => ?_)) | (with_reducible exact leaf_none) | exact leaf_some rfl)
noncomputable def F_disk_Disk_Size : A_disk_Disk_Size → M_disk_Disk_Size → Option O_disk_Disk_Size := fun a b => (R_disk_Disk_Size a b).map fun r => (r.1, ())
theorem n_disk_Disk_Size (x1 : Int) (x2 : List ByteArray) (x3 : List (Int × ByteArray)) {α : Type} (K : RO_disk_Disk_Size → Option α) : tree_disk_Disk_Size x1 x2 x3 K = (tree_disk_Disk_Size x1 x2 x3 some).bind K := by simp only [tree_disk_Disk_Size, bind_cond, bind_none', bind_some', bind_bind', bind_sum]
theorem Fe_disk_Disk_Size (x1 : Int) (x2 : List ByteArray) (x3 : List (Int × ByteArray)) : F_disk_Disk_Size () ((x1, ()), (x2, (x3, ()))) = (tree_disk_Disk_Size x1 x2 x3 some).map fun r => (r.1, ()) := rfl

/-! (*countersign/disk.Disk).Pending -/
def args_disk_Disk_Pending : SkL := (.cons (.const (.ptr 0 0 0)) .nil)
def mem_disk_Disk_Pending : MSk := [(0, .cells (.cons (.leaf (.int .i64)) (.cons (.const (.slw 1)) (.cons (.const (.slw 2)) .nil)))), (1, .row 9 (.cons .str .nil)), (2, .row 127 (.cons (.int .i64) (.cons .str .nil)))]
def outs_disk_Disk_Pending : List OutC := [⟨(.leaf (.int .i64)), []⟩]
abbrev A_disk_Disk_Pending : Type := Unit
abbrev M_disk_Disk_Pending : Type := ((Int × Unit) × List ByteArray × (List (Int × ByteArray)) × Unit)
abbrev O_disk_Disk_Pending : Type := Int × Unit
def routs_disk_Disk_Pending : List OutC := [⟨(.leaf (.int .i64)), [(0, .cells (.cons (.leaf (.int .i64)) (.cons (.const (.slw 1)) (.cons (.const (.slw 2)) .nil)))), (1, .row 9 (.cons .str .nil)), (2, .row 127 (.cons (.int .i64) (.cons .str .nil)))]⟩]
abbrev RO_disk_Disk_Pending : Type := Int × ((Int × Unit) × List ByteArray × (List (Int × ByteArray)) × Unit)
def tree_disk_Disk_Pending {α : Type} (x1 : Int) (x2 : List ByteArray) (x3 : List (Int × ByteArray)) (K : RO_disk_Disk_Pending → Option α) : Option α :=
  K ((↑x3.length : Int), ((x1, ()), (x2, (x3, ()))))
noncomputable def R_disk_Disk_Pending : A_disk_Disk_Pending → M_disk_Disk_Pending → Option RO_disk_Disk_Pending := fun a b => tree_disk_Disk_Pending b.1.1 b.2.1 b.2.2.1 some
theorem reads_disk_Disk_Pending (a : A_disk_Disk_Pending) (b : M_disk_Disk_Pending) : Leaf (fun r : RO_disk_Disk_Pending => r.2 = b) (R_disk_Disk_Pending a b) := by
  show Leaf _ (tree_disk_Disk_Pending b.1.1 b.2.1 b.2.2.1 some)
  unfold tree_disk_Disk_Pending
  repeat (first | (with_reducible refine leaf_bind fun _ => ?_) | (with_reducible apply leaf_cond) | (with_reducible refine leaf_sum (fun _ => ?_) (fun _ => ?_)) | (with_reducible exact leaf_none) | exact leaf_some rfl)
noncomputable def F_disk_Disk_Pending : A_disk_Disk_Pending → M_disk_Disk_Pending → Option O_disk_Disk_Pending := fun a b => (R_disk_Disk_Pending a b).map fun r => (r.1, ())
theorem n_disk_Disk_Pending (x1 : Int) (x2 : List ByteArray) (x3 : List (Int × ByteArray)) {α : Type} (K : RO_disk_Disk_Pending → Option α) : tree_disk_Disk_Pending x1 x2 x3 K = (tree_disk_Disk_Pending x1 x2 x3 some).bind K := by simp only [tree_disk_Disk_Pending, bind_cond, bind_none', bind_some', bind_bind', bind_sum]
theorem Fe_disk_Disk_Pending (x1 : Int) (x2 : List ByteArray) (x3 : List (Int × ByteArray)) : F_disk_Disk_Pending () ((x1, ()), (x2, (x3, ()))) = (tree_disk_Disk_Pending x1 x2 x3 some).map fun r => (r.1, ()) := rfl

/-! (*countersign/disk.Disk).has -/
def args_disk_Disk_has : SkL := (.cons (.const (.ptr 0 0 0)) (.cons (.leaf (.int .i64)) .nil))
def mem_disk_Disk_has : MSk := [(0, .cells (.cons (.leaf (.int .i64)) (.cons (.const (.slw 1)) (.cons (.const (.slw 2)) .nil)))), (1, .row 9 (.cons .str .nil)), (2, .row 127 (.cons (.int .i64) (.cons .str .nil)))]
def outs_disk_Disk_has : List OutC := [⟨(.leaf .bool), []⟩]
abbrev A_disk_Disk_has : Type := (Int × Unit)
abbrev M_disk_Disk_has : Type := ((Int × Unit) × List ByteArray × (List (Int × ByteArray)) × Unit)
abbrev O_disk_Disk_has : Type := Bool × Unit
def routs_disk_Disk_has : List OutC := [⟨(.leaf .bool), [(0, .cells (.cons (.leaf (.int .i64)) (.cons (.const (.slw 1)) (.cons (.const (.slw 2)) .nil)))), (1, .row 9 (.cons .str .nil)), (2, .row 127 (.cons (.int .i64) (.cons .str .nil)))]⟩]
abbrev RO_disk_Disk_has : Type := Bool × ((Int × Unit) × List ByteArray × (List (Int × ByteArray)) × Unit)
def tree_disk_Disk_has {α : Type} (x1 : Int) (x2 : Int) (x3 : List ByteArray) (x4 : List (Int × ByteArray)) (K : RO_disk_Disk_has → Option α) : Option α :=
  cond (decide (x1 ≥ 0))
  (K (decide (x1 < (↑x3.length : Int)), ((x2, ()), (x3, (x4, ())))))
  (K (false, ((x2, ()), (x3, (x4, ())))))
noncomputable def R_disk_Disk_has : A_disk_Disk_has → M_disk_Disk_has → Option RO_disk_Disk_has := fun a b => tree_disk_Disk_has a.1 b.1.1 b.2.1 b.2.2.1 some
theorem reads_disk_Disk_has (a : A_disk_Disk_has) (b : M_disk_Disk_has) : Leaf (fun r : RO_disk_Disk_has => r.2 = b) (R_disk_Disk_has a b) := by
  show Leaf _ (tree_disk_Disk_has a.1 b.1.1 b.2.1 b.2.2.1 some)
  unfold tree_disk_Disk_has
  repeat (first | (with_reducible refine leaf_bind fun _ => ?_) | (with_reducible apply leaf_cond) | (with_reducible refine leaf_sum (fun _ => ?_) (fun _ => ?_)) | (with_reducible exact leaf_none) | exact leaf_some rfl)
noncomputable def F_disk_Disk_has : A_disk_Disk_has → M_disk_Disk_has → Option O_disk_Disk_has := fun a b => (R_disk_Disk_has a b).map fun r => (r.1, ())
theorem n_disk_Disk_has (x1 : Int) (x2 : Int) (x3 : List ByteArray) (x4 : List (Int × ByteArray)) {α : Type} (K : RO_disk_Disk_has → Option α) : tree_disk_Disk_has x1 x2 x3 x4 K = (tree_disk_Disk_has x1 x2 x3 x4 some).bind K := by simp only [tree_disk_Disk_has, bind_cond, bind_none', bind_some', bind_bind', bind_sum]
theorem Fe_disk_Disk_has (x1 : Int) (x2 : Int) (x3 : List ByteArray) (x4 : List (Int × ByteArray)) : F_disk_Disk_has (x1, ()) ((x2, ()), (x3, (x4, ()))) = (tree_disk_Disk_has x1 x2 x3 x4 some).map fun r => (r.1, ()) := rfl

/-! (*countersign/disk.Disk).Safe -/
def args_disk_Disk_Safe : SkL := (.cons (.const (.ptr 0 0 0)) (.cons (.leaf (.int .i64)) .nil))
def mem_disk_Disk_Safe : MSk := [(0, .cells (.cons (.leaf (.int .i64)) (.cons (.const (.slw 1)) (.cons (.const (.slw 2)) .nil)))), (1, .row 9 (.cons .str .nil)), (2, .row 127 (.cons (.int .i64) (.cons .str .nil)))]
def outs_disk_Disk_Safe : List OutC := [⟨(.tup (.cons (.leaf .str) (.cons (.leaf .bool) .nil))), []⟩]
abbrev A_disk_Disk_Safe : Type := (Int × Unit)
abbrev M_disk_Disk_Safe : Type := ((Int × Unit) × List ByteArray × (List (Int × ByteArray)) × Unit)
abbrev O_disk_Disk_Safe : Type := (ByteArray × Bool × Unit) × Unit
def routs_disk_Disk_Safe : List OutC := [⟨(.tup (.cons (.leaf .str) (.cons (.leaf .bool) .nil))), [(0, .cells (.cons (.leaf (.int .i64)) (.cons (.const (.slw 1)) (.cons (.const (.slw 2)) .nil)))), (1, .row 9 (.cons .str .nil)), (2, .row 127 (.cons (.int .i64) (.cons .str .nil)))]⟩]
abbrev RO_disk_Disk_Safe : Type := (ByteArray × Bool × Unit) × ((Int × Unit) × List ByteArray × (List (Int × ByteArray)) × Unit)
def tree_disk_Disk_Safe (F_disk_Disk_has : A_disk_Disk_has → M_disk_Disk_has → Option O_disk_Disk_has) {α : Type} (x1 : Int) (x2 : Int) (x3 : List ByteArray) (x4 : List (Int × ByteArray)) (K : RO_disk_Disk_Safe → Option α) : Option α :=
  (F_disk_Disk_has (x1, ()) ((x2, ()), x3, x4, ())).bind fun r1 =>
  cond (!r1.fst)
  (K ((ByteArray.empty, (false, ())), ((x2, ()), (x3, (x4, ())))))
  (cond (decide (0 ≤ x1))
   (cond (decide (x1 < (↑x3.length : Int)))
    (K ((x3.getD (0 + x1.toNat) ByteArray.empty, (true, ())), ((x2, ()), (x3, (x4, ())))))
    (none))
   (none))
noncomputable def R_disk_Disk_Safe : A_disk_Disk_Safe → M_disk_Disk_Safe → Option RO_disk_Disk_Safe := fun a b => tree_disk_Disk_Safe F_disk_Disk_has a.1 b.1.1 b.2.1 b.2.2.1 some
theorem reads_disk_Disk_Safe (a : A_disk_Disk_Safe) (b : M_disk_Disk_Safe) : Leaf (fun r : RO_disk_Disk_Safe => r.2 = b) (R_disk_Disk_Safe a b) := by
  show Leaf _ (tree_disk_Disk_Safe F_disk_Disk_has a.1 b.1.1 b.2.1 b.2.2.1 some)
  unfold tree_disk_Disk_Safe
  repeat (first | (with_reducible refine leaf_bind fun _ => ?_) | (with_reducible apply leaf_cond) | (with_reducible refine leaf_sum (fun _ => ?_) (fun _ => ?_)) | (with_reducible exact leaf_none) | exact leaf_some rfl)
noncomputable def F_disk_Disk_Safe : A_disk_Disk_Safe → M_disk_Disk_Safe → Option O_disk_Disk_Safe := fun a b => (R_disk_Disk_Safe a b).map fun r => (r.1, ())
theorem n_disk_Disk_Safe (F_disk_Disk_has : A_disk_Disk_has → M_disk_Disk_has → Option O_disk_Disk_has) (x1 : Int) (x2 : Int) (x3 : List ByteArray) (x4 : List (Int × ByteArray)) {α : Type} (K : RO_disk_Disk_Safe → Option α) : tree_disk_Disk_Safe F_disk_Disk_has x1 x2 x3 x4 K = (tree_disk_Disk_Safe F_disk_Disk_has x1 x2 x3 x4 some).bind K := by simp only [tree_disk_Disk_Safe, bind_cond, bind_none', bind_some', bind_bind', bind_sum]
theorem Fe_disk_Disk_Safe (x1 : Int) (x2 : Int) (x3 : List ByteArray) (x4 : List (Int × ByteArray)) : F_disk_Disk_Safe (x1, ()) ((x2, ()), (x3, (x4, ()))) = (tree_disk_Disk_Safe F_disk_Disk_has x1 x2 x3 x4 some).map fun r => (r.1, ()) := rfl

/-! (*countersign/disk.Disk).Read -/
def args_disk_Disk_Read : SkL := (.cons (.const (.ptr 0 0 0)) (.cons (.leaf (.int .i64)) .nil))
def mem_disk_Disk_Read : MSk := [(0, .cells (.cons (.leaf (.int .i64)) (.cons (.const (.slw 1)) (.cons (.const (.slw 2)) .nil)))), (1, .row 9 (.cons .str .nil)), (2, .row 127 (.cons (.int .i64) (.cons .str .nil)))]
def outs_disk_Disk_Read : List OutC := [⟨(.tup (.cons (.leaf .str) (.cons (.leaf .bool) .nil))), []⟩]
abbrev A_disk_Disk_Read : Type := (Int × Unit)
abbrev M_disk_Disk_Read : Type := ((Int × Unit) × List ByteArray × (List (Int × ByteArray)) × Unit)
abbrev O_disk_Disk_Read : Type := (ByteArray × Bool × Unit) × Unit
def ltmps_disk_Disk_Read_2 : SkL := (.cons (.const (.ptr 0 0 0)) (.cons (.leaf (.int .i64)) (.cons (.const .dead) (.cons (.const .dead) (.cons (.const .dead) (.cons (.const .dead) (.cons (.leaf (.int .i64)) (.cons (.const .dead) (.cons (.const .dead) (.cons (.const .dead) (.cons (.const .dead) (.cons (.const .dead) (.cons (.const .dead) (.cons (.const .dead) (.cons (.const .dead) (.cons (.const .dead) (.cons (.const .dead) (.cons (.const .dead) (.cons (.const .dead) (.cons (.const .dead) (.cons (.const .dead) (.cons (.const .dead) (.cons (.const .dead) (.cons (.const .dead) (.cons (.const .dead) (.cons (.const .dead) (.cons (.const .dead) (.cons (.const .dead) (.cons (.const .dead) (.cons (.const .dead) (.cons (.const .dead) (.cons (.const .dead) (.cons (.const .dead) (.cons (.const .dead) (.cons (.const .dead) (.cons (.const .dead) (.cons (.const .dead) (.cons (.const .dead) (.cons (.const .dead) (.cons (.const .dead) .nil))))))))))))))))))))))))))))))))))))))))
def lmem_disk_Disk_Read_2 : MSk := [(0, .cells (.cons (.leaf (.int .i64)) (.cons (.const (.slw 1)) (.cons (.const (.slw 2)) .nil)))), (1, .row 9 (.cons .str .nil)), (2, .row 127 (.cons (.int .i64) (.cons .str .nil)))]
def louts_disk_Disk_Read_2 : List OutL := [⟨.ret, (.cons (.const (.ptr 0 0 0)) (.cons (.leaf (.int .i64)) (.cons (.const .dead) (.cons (.const .dead) (.cons (.leaf .str) (.cons (.leaf .bool) (.cons (.const .dead) (.cons (.const .dead) (.cons (.const .dead) (.cons (.const .dead) (.cons (.const .dead) (.cons (.const .dead) (.cons (.const .dead) (.cons (.const .dead) (.cons (.const .dead) (.cons (.const .dead) (.cons (.const .dead) (.cons (.const .dead) (.cons (.const .dead) (.cons (.const .dead) (.cons (.const .dead) (.cons (.const .dead) (.cons (.const .dead) (.cons (.const .dead) (.cons (.const .dead) (.cons (.const .dead) (.cons (.const .dead) (.cons (.const .dead) (.cons (.const .dead) (.cons (.const .dead) (.cons (.const .dead) (.cons (.const .dead) (.cons (.const .dead) (.cons (.const .dead) (.cons (.const .dead) (.cons (.const .dead) (.cons (.const .dead) (.cons (.const .dead) (.cons (.const .dead) (.cons (.const .dead) .nil)))))))))))))))))))))))))))))))))))))))), [(0, .cells (.cons (.leaf (.int .i64)) (.cons (.const (.slw 1)) (.cons (.const (.slw 2)) .nil)))), (1, .row 9 (.cons .str .nil)), (2, .row 127 (.cons (.int .i64) (.cons .str .nil)))]⟩, ⟨(.exit 0), (.cons (.const (.ptr 0 0 0)) (.cons (.leaf (.int .i64)) (.cons (.const .dead) (.cons (.const .dead) (.cons (.const .dead) (.cons (.const .dead) (.cons (.const .dead) (.cons (.const .dead) (.cons (.const .dead) (.cons (.const .dead) (.cons (.const .dead) (.cons (.const .dead) (.cons (.const .dead) (.cons (.const .dead) (.cons (.const .dead) (.cons (.const .dead) (.cons (.const .dead) (.cons (.const .dead) (.cons (.const .dead) (.cons (.const .dead) (.cons (.const .dead) (.cons (.const .dead) (.cons (.const .dead) (.cons (.const .dead) (.cons (.const .dead) (.cons (.const .dead) (.cons (.const .dead) (.cons (.const .dead) (.cons (.const .dead) (.cons (.const .dead) (.cons (.const .dead) (.cons (.const .dead) (.cons (.const .dead) (.cons (.const .dead) (.cons (.const .dead) (.cons (.const .dead) (.cons (.const .dead) (.cons (.const .dead) (.cons (.const .dead) (.cons (.const .dead) .nil)))))))))))))))))))))))))))))))))))))))), [(0, .cells (.cons (.leaf (.int .i64)) (.cons (.const (.slw 1)) (.cons (.const (.slw 2)) .nil)))), (1, .row 9 (.cons .str .nil)), (2, .row 127 (.cons (.int .i64) (.cons .str .nil)))]⟩]
abbrev LT_disk_Disk_Read_2 : Type := (Int × Int × Unit)
abbrev LM_disk_Disk_Read_2 : Type := ((Int × Unit) × List ByteArray × (List (Int × ByteArray)) × Unit)
abbrev LO_disk_Disk_Read_2 : Type := ((Int × ByteArray × Bool × Unit) × ((Int × Unit) × List ByteArray × (List (Int × ByteArray)) × Unit)) ⊕ ((Int × Unit) × ((Int × Unit) × List ByteArray × (List (Int × ByteArray)) × Unit))
def ltree_disk_Disk_Read_2 {α : Type} (x1 : Int) (x2 : Int) (x3 : Int) (x4 : List ByteArray) (x5 : List (Int × ByteArray)) (kn : LT_disk_Disk_Read_2 → LM_disk_Disk_Read_2 → Option α) (kr : LO_disk_Disk_Read_2 → Option α) : Option α :=
  cond (decide (x2 ≥ 0))
  (cond (decide (0 ≤ x2))
   (cond (decide (x2 < (↑x5.length : Int)))
    (cond ((x5.getD (0 + x2.toNat) (0, ByteArray.empty)).fst == x1)
     (cond (decide (0 ≤ x2))
      (cond (decide (x2 < (↑x5.length : Int)))
       (kr (.inl ((x1, ((x5.getD (0 + x2.toNat) (0, ByteArray.empty)).snd, (true, ()))), ((x3, ()), (x4, (x5, ()))))))
       (none))
      (none))
     (kn (x1, (IntKind.i64.wrap (x2 - 1), ())) ((x3, ()), (x4, (x5, ())))))
    (none))
   (none))
  (kr (.inr ((x1, ()), ((x3, ()), (x4, (x5, ()))))))
noncomputable def L_disk_Disk_Read_2 : LT_disk_Disk_Read_2 → LM_disk_Disk_Read_2 → Option LO_disk_Disk_Read_2 := fun x y => runL (fun p => (fun (a : LT_disk_Disk_Read_2) (b : LM_disk_Disk_Read_2) => ltree_disk_Disk_Read_2 a.1 a.2.1 b.1.1 b.2.1 b.2.2.1 (fun a' b' => some (.inl (a', b'))) fun r => some (.inr r)) p.1 p.2) (x, y)
theorem nl_disk_Disk_Read_2 (x1 : Int) (x2 : Int) (x3 : Int) (x4 : List ByteArray) (x5 : List (Int × ByteArray)) {α : Type} (kn : LT_disk_Disk_Read_2 → LM_disk_Disk_Read_2 → Option α) (kr : LO_disk_Disk_Read_2 → Option α) : ltree_disk_Disk_Read_2 x1 x2 x3 x4 x5 kn kr = (ltree_disk_Disk_Read_2 x1 x2 x3 x4 x5 (fun a b => some (.inl (a, b))) fun r => some (.inr r)).bind (Sum.elim (fun p : LT_disk_Disk_Read_2 × LM_disk_Disk_Read_2 => kn p.1 p.2) kr) := by simp only [ltree_disk_Disk_Read_2, bind_cond, bind_none', bind_some', bind_bind', bind_sum, Sum.elim_inl, Sum.elim_inr]
theorem Le_disk_Disk_Read_2 (x1 : Int) (x2 : Int) (x3 : Int) (x4 : List ByteArray) (x5 : List (Int × ByteArray)) : L_disk_Disk_Read_2 (x1, (x2, ())) ((x3, ()), (x4, (x5, ()))) = ltree_disk_Disk_Read_2 x1 x2 x3 x4 x5 L_disk_Disk_Read_2 some := runL_tree (A := LT_disk_Disk_Read_2) (B := LM_disk_Disk_Read_2) (R := LO_disk_Disk_Read_2) (fun a b kn kr => ltree_disk_Disk_Read_2 a.1 a.2.1 b.1.1 b.2.1 b.2.2.1 kn kr) (fun a b kn kr => nl_disk_Disk_Read_2 a.1 a.2.1 b.1.1 b.2.1 b.2.2.1 kn kr) (x1, (x2, ())) ((x3, ()), (x4, (x5, ())))
def routs_disk_Disk_Read : List OutC := [⟨(.tup (.cons (.leaf .str) (.cons (.leaf .bool) .nil))), [(0, .cells (.cons (.leaf (.int .i64)) (.cons (.const (.slw 1)) (.cons (.const (.slw 2)) .nil)))), (1, .row 9 (.cons .str .nil)), (2, .row 127 (.cons (.int .i64) (.cons .str .nil)))]⟩]
abbrev RO_disk_Disk_Read : Type := (ByteArray × Bool × Unit) × ((Int × Unit) × List ByteArray × (List (Int × ByteArray)) × Unit)
def tree_disk_Disk_Read (F_disk_Disk_Safe : A_disk_Disk_Safe → M_disk_Disk_Safe → Option O_disk_Disk_Safe) (L_disk_Disk_Read_2 : LT_disk_Disk_Read_2 → LM_disk_Disk_Read_2 → Option LO_disk_Disk_Read_2) {α : Type} (x1 : Int) (x2 : Int) (x3 : List ByteArray) (x4 : List (Int × ByteArray)) (K : RO_disk_Disk_Read → Option α) : Option α :=
  (L_disk_Disk_Read_2 (x1, IntKind.i64.wrap ((↑x4.length : Int) - 1), ()) ((x2, ()), x3, x4, ())).bind fun r1 =>
  Sum.elim (fun u2 =>
   K ((u2.fst.snd.fst, (u2.fst.snd.snd.fst, ())), ((u2.snd.fst.fst, ()), (u2.snd.snd.fst, (u2.snd.snd.snd.fst, ())))))
  (fun u2 =>
   (F_disk_Disk_Safe (u2.fst.fst, ()) ((u2.snd.fst.fst, ()), u2.snd.snd.fst, u2.snd.snd.snd.fst, ())).bind fun r3 =>
   K ((r3.fst.fst, (r3.fst.snd.fst, ())), ((u2.snd.fst.fst, ()), (u2.snd.snd.fst, (u2.snd.snd.snd.fst, ()))))) (r1)
noncomputable def R_disk_Disk_Read : A_disk_Disk_Read → M_disk_Disk_Read → Option RO_disk_Disk_Read := fun a b => tree_disk_Disk_Read F_disk_Disk_Safe L_disk_Disk_Read_2 a.1 b.1.1 b.2.1 b.2.2.1 some
theorem lr_disk_Disk_Read_2 (x : LT_disk_Disk_Read_2) (y : LM_disk_Disk_Read_2) : Leaf (fun r : LO_disk_Disk_Read_2 => ((Sum.elim (fun r => r.2 = y) (fun r => r.2 = y)) : LO_disk_Disk_Read_2 → Prop) r) (L_disk_Disk_Read_2 x y) := by
  refine leaf_loop (fun s => s.2 = y) (fun s hs => ?_) rfl
  obtain ⟨a, b⟩ := s
  cases hs
  dsimp only
  unfold ltree_disk_Disk_Read_2
  repeat (first | (with_reducible refine leaf_bind fun _ => ?_) | (with_reducible apply leaf_cond) | (with_reducible refine leaf_sum (fun _ => ?_) (fun _ => ?_)) | (with_reducible exact leaf_none) | exact leaf_some rfl)
theorem reads_disk_Disk_Read (a : A_disk_Disk_Read) (b : M_disk_Disk_Read) : Leaf (fun r : RO_disk_Disk_Read => r.2 = b) (R_disk_Disk_Read a b) := by
  show Leaf _ (tree_disk_Disk_Read F_disk_Disk_Safe L_disk_Disk_Read_2 a.1 b.1.1 b.2.1 b.2.2.1 some)
  unfold tree_disk_Disk_Read
  repeat (first | ((with_reducible refine leaf_bindL (lr_disk_Disk_Read_2 _ _) fun r hr => ?_); first | (rcases r with r | r <;> (have hr : r.2 = _ := hr; obtain ⟨r1, r2⟩ := r; cases hr; simp only [Sum.elim_inl, Sum.elim_inr])) | (have hr : r.2 = _ := hr; obtain ⟨r1, r2⟩ := r; cases hr)) | (with_reducible refine leaf_bind fun _ => ?_) | (with_reducible apply leaf_cond) | (with_reducible refine leaf_sum (fun _ => ?_) (fun _ => ?_)) | (with_reducible exact leaf_none) | exact leaf_some rfl)
noncomputable def F_disk_Disk_Read : A_disk_Disk_Read → M_disk_Disk_Read → Option O_disk_Disk_Read := fun a b => (R_disk_Disk_Read a b).map fun r => (r.1, ())
theorem n_disk_Disk_Read (F_disk_Disk_Safe : A_disk_Disk_Safe → M_disk_Disk_Safe → Option O_disk_Disk_Safe) (L_disk_Disk_Read_2 : LT_disk_Disk_Read_2 → LM_disk_Disk_Read_2 → Option LO_disk_Disk_Read_2) (x1 : Int) (x2 : Int) (x3 : List ByteArray) (x4 : List (Int × ByteArray)) {α : Type} (K : RO_disk_Disk_Read → Option α) : tree_disk_Disk_Read F_disk_Disk_Safe L_disk_Disk_Read_2 x1 x2 x3 x4 K = (tree_disk_Disk_Read F_disk_Disk_Safe L_disk_Disk_Read_2 x1 x2 x3 x4 some).bind K := by simp only [tree_disk_Disk_Read, bind_cond, bind_none', bind_some', bind_bind', bind_sum]
theorem Fe_disk_Disk_Read (x1 : Int) (x2 : Int) (x3 : List ByteArray) (x4 : List (Int × ByteArray)) : F_disk_Disk_Read (x1, ()) ((x2, ()), (x3, (x4, ()))) = (tree_disk_Disk_Read F_disk_Disk_Safe L_disk_Disk_Read_2 x1 x2 x3 x4 some).map fun r => (r.1, ()) := rfl

/-! (*countersign/disk.Disk).Flush$1 -/
def args_disk_Disk_Flush_1 : SkL := (.cons (.leaf (.int .i64)) (.cons (.const (.ptr 0 0 0)) .nil))
def mem_disk_Disk_Flush_1 : MSk := [(0, .cells (.cons (.const (.ptr 1 0 0)) .nil)), (1, .cells (.cons (.leaf (.int .i64)) (.cons (.const (.slw 2)) (.cons (.const (.slw 3)) .nil)))), (2, .row 9 (.cons .str .nil)), (3, .row 127 (.cons (.int .i64) (.cons .str .nil)))]
def outs_disk_Disk_Flush_1 : List OutC := [⟨(.leaf (.int .i64)), []⟩]
abbrev A_disk_Disk_Flush_1 : Type := (Int × Unit)
abbrev M_disk_Disk_Flush_1 : Type := (Unit × (Int × Unit) × List ByteArray × (List (Int × ByteArray)) × Unit)
abbrev O_disk_Disk_Flush_1 : Type := Int × Unit
def routs_disk_Disk_Flush_1 : List OutC := [⟨(.leaf (.int .i64)), [(0, .cells (.cons (.const (.ptr 1 0 0)) .nil)), (1, .cells (.cons (.leaf (.int .i64)) (.cons (.const (.slw 2)) (.cons (.const (.slw 3)) .nil)))), (2, .row 9 (.cons .str .nil)), (3, .row 127 (.cons (.int .i64) (.cons .str .nil)))]⟩]
abbrev RO_disk_Disk_Flush_1 : Type := Int × (Unit × (Int × Unit) × List ByteArray × (List (Int × ByteArray)) × Unit)
def tree_disk_Disk_Flush_1 {α : Type} (x1 : Int) (x2 : Int) (x3 : List ByteArray) (x4 : List (Int × ByteArray)) (K : RO_disk_Disk_Flush_1 → Option α) : Option α :=
  K (x2, ((), ((x2, ()), (x3, (x4, ())))))
noncomputable def R_disk_Disk_Flush_1 : A_disk_Disk_Flush_1 → M_disk_Disk_Flush_1 → Option RO_disk_Disk_Flush_1 := fun a b => tree_disk_Disk_Flush_1 a.1 b.2.1.1 b.2.2.1 b.2.2.2.1 some
theorem reads_disk_Disk_Flush_1 (a : A_disk_Disk_Flush_1) (b : M_disk_Disk_Flush_1) : Leaf (fun r : RO_disk_Disk_Flush_1 => r.2 = b) (R_disk_Disk_Flush_1 a b) := by
  show Leaf _ (tree_disk_Disk_Flush_1 a.1 b.2.1.1 b.2.2.1 b.2.2.2.1 some)
  unfold tree_disk_Disk_Flush_1
  repeat (first | (with_reducible refine leaf_bind fun _ => ?_) | (with_reducible apply leaf_cond) | (with_reducible refine leaf_sum (fun _ => ?_) (fun _ => ?_)) | (with_reducible exact leaf_none) | exact leaf_some rfl)
noncomputable def F_disk_Disk_Flush_1 : A_disk_Disk_Flush_1 → M_disk_Disk_Flush_1 → Option O_disk_Disk_Flush_1 := fun a b => (R_disk_Disk_Flush_1 a b).map fun r => (r.1, ())
theorem n_disk_Disk_Flush_1 (x1 : Int) (x2 : Int) (x3 : List ByteArray) (x4 : List (Int × ByteArray)) {α : Type} (K : RO_disk_Disk_Flush_1 → Option α) : tree_disk_Disk_Flush_1 x1 x2 x3 x4 K = (tree_disk_Disk_Flush_1 x1 x2 x3 x4 some).bind K := by simp only [tree_disk_Disk_Flush_1, bind_cond, bind_none', bind_some', bind_bind', bind_sum]
theorem Fe_disk_Disk_Flush_1 (x1 : Int) (x2 : Int) (x3 : List ByteArray) (x4 : List (Int × ByteArray)) : F_disk_Disk_Flush_1 (x1, ()) ((), ((x2, ()), (x3, (x4, ())))) = (tree_disk_Disk_Flush_1 x1 x2 x3 x4 some).map fun r => (r.1, ()) := rfl

/-! (*countersign/disk.Disk).Crash$1 -/
def args_disk_Disk_Crash_1 : SkL := (.cons (.leaf (.int .i64)) (.cons (.const (.ptr 0 0 0)) .nil))
def mem_disk_Disk_Crash_1 : MSk := [(0, .cells (.cons (.leaf (.slc 3 (.cons (.int .i64) .nil))) .nil))]
def outs_disk_Disk_Crash_1 : List OutC := [⟨(.leaf (.int .i64)), []⟩]
abbrev A_disk_Disk_Crash_1 : Type := (Int × Unit)
abbrev M_disk_Disk_Crash_1 : Type := ((List Int × Unit) × Unit)
abbrev O_disk_Disk_Crash_1 : Type := Int × Unit
def routs_disk_Disk_Crash_1 : List OutC := [⟨(.leaf (.int .i64)), [(0, .cells (.cons (.leaf (.slc 3 (.cons (.int .i64) .nil))) .nil))]⟩]
abbrev RO_disk_Disk_Crash_1 : Type := Int × ((List Int × Unit) × Unit)
def tree_disk_Disk_Crash_1 {α : Type} (x1 : Int) (x2 : List Int) (K : RO_disk_Disk_Crash_1 → Option α) : Option α :=
  cond (decide (x1 < (↑x2.length : Int)))
  (cond (decide (0 ≤ x1))
   (cond (decide (x1 < (↑x2.length : Int)))
    (K (x2.getD x1.toNat 0, ((x2, ()), ())))
    (none))
   (none))
  (K (0, ((x2, ()), ())))
noncomputable def R_disk_Disk_Crash_1 : A_disk_Disk_Crash_1 → M_disk_Disk_Crash_1 → Option RO_disk_Disk_Crash_1 := fun a b => tree_disk_Disk_Crash_1 a.1 b.1.1 some
theorem reads_disk_Disk_Crash_1 (a : A_disk_Disk_Crash_1) (b : M_disk_Disk_Crash_1) : Leaf (fun r : RO_disk_Disk_Crash_1 => r.2 = b) (R_disk_Disk_Crash_1 a b) := by
  show Leaf _ (tree_disk_Disk_Crash_1 a.1 b.1.1 some)
  unfold tree_disk_Disk_Crash_1
  repeat (first | (with_reducible refine leaf_bind fun _ => ?_) | (with_reducible apply leaf_cond) | (with_reducible refine leaf_sum (fun _ => ?_) (fun _ => ?_)) | (with_reducible exact leaf_none) | exact leaf_some rfl)
noncomputable def F_disk_Disk_Crash_1 : A_disk_Disk_Crash_1 → M_disk_Disk_Crash_1 → Option O_disk_Disk_Crash_1 := fun a b => (R_disk_Disk_Crash_1 a b).map fun r => (r.1, ())
theorem n_disk_Disk_Crash_1 (x1 : Int) (x2 : List Int) {α : Type} (K : RO_disk_Disk_Crash_1 → Option α) : tree_disk_Disk_Crash_1 x1 x2 K = (tree_disk_Disk_Crash_1 x1 x2 some).bind K := by simp only [tree_disk_Disk_Crash_1, bind_cond, bind_none', bind_some', bind_bind', bind_sum]
theorem Fe_disk_Disk_Crash_1 (x1 : Int) (x2 : List Int) : F_disk_Disk_Crash_1 (x1, ()) ((x2, ()), ()) = (tree_disk_Disk_Crash_1 x1 x2 some).map fun r => (r.1, ()) := rfl

/-! (*countersign/disk.Disk).keep -/
def args_disk_Disk_keep_v1 : SkL := (.cons (.const (.ptr 0 0 0)) (.cons (.fn 85 (.cons (.const (.ptr 1 0 0)) .nil)) .nil))
def mem_disk_Disk_keep_v1 : MSk := [(0, .cells (.cons (.leaf (.int .i64)) (.cons (.const (.slw 2)) (.cons (.const (.slw 3)) .nil)))), (1, .cells (.cons (.const (.ptr 0 0 0)) .nil)), (2, .row 9 (.cons .str .nil)), (3, .row 127 (.cons (.int .i64) (.cons .str .nil)))]
def outs_disk_Disk_keep_v1 : List OutC := [⟨(.tup .nil), [(0, .cells (.cons (.leaf (.int .i64)) (.cons (.const (.slw 2)) (.cons (.const (.slw 4)) .nil)))), (1, .cells (.cons (.const (.ptr 0 0 0)) .nil)), (2, .row 9 (.cons .str .nil)), (3, .gone), (4, .row 127 (.cons (.int .i64) (.cons .str .nil)))]⟩]
abbrev A_disk_Disk_keep_v1 : Type := (Unit × Unit)
abbrev M_disk_Disk_keep_v1 : Type := ((Int × Unit) × Unit × List ByteArray × (List (Int × ByteArray)) × Unit)
abbrev O_disk_Disk_keep_v1 : Type := Unit × ((Int × Unit) × Unit × List ByteArray × Unit × (List (Int × ByteArray)) × Unit)
def ltmps_disk_Disk_keep_v1_1 : SkL := (.cons (.const (.ptr 0 0 0)) (.cons (.fn 85 (.cons (.const (.ptr 1 0 0)) .nil)) (.cons (.const .dead) (.cons (.const .dead) (.cons (.const .dead) (.cons (.const .dead) (.cons (.const .dead) (.cons (.const .dead) (.cons (.const .dead) (.cons (.const .dead) (.cons (.const (.slw 3)) (.cons (.leaf (.int .i64)) (.cons (.leaf (.int .i64)) (.cons (.const .dead) (.cons (.const .dead) (.cons (.const .dead) (.cons (.const .dead) (.cons (.const .dead) (.cons (.const .dead) (.cons (.const .dead) (.cons (.const .dead) (.cons (.const .dead) (.cons (.const .dead) (.cons (.const .dead) (.cons (.const .dead) (.cons (.const .dead) (.cons (.const .dead) (.cons (.const .dead) (.cons (.const .dead) (.cons (.const .dead) (.cons (.const .dead) (.cons (.const .dead) (.cons (.const .dead) (.cons (.const .dead) (.cons (.const .dead) (.cons (.const .dead) (.cons (.const .dead) (.cons (.const .dead) (.cons (.const .dead) (.cons (.const .dead) (.cons (.const .dead) (.cons (.const .dead) (.cons (.const .dead) (.cons (.const .dead) (.cons (.const .dead) (.cons (.const .dead) (.cons (.const .dead) (.cons (.const .dead) (.cons (.const .dead) (.cons (.const .dead) (.cons (.const .dead) (.cons (.const .dead) .nil))))))))))))))))))))))))))))))))))))))))))))))))))))
def lmem_disk_Disk_keep_v1_1 : MSk := [(0, .cells (.cons (.leaf (.int .i64)) (.cons (.const (.slw 2)) (.cons (.const (.slw 3)) .nil)))), (1, .cells (.cons (.const (.ptr 0 0 0)) .nil)), (2, .row 9 (.cons .str .nil)), (3, .row 127 (.cons (.int .i64) (.cons .str .nil)))]
def louts_disk_Disk_keep_v1_1 : List OutL := [⟨(.exit 0), (.cons (.const (.ptr 0 0 0)) (.cons (.const .dead) (.cons (.const .dead) (.cons (.const .dead) (.cons (.const .dead) (.cons (.const .dead) (.cons (.const .dead) (.cons (.const .dead) (.cons (.const .dead) (.cons (.const .dead) (.cons (.const .dead) (.cons (.const .dead) (.cons (.const .dead) (.cons (.const .dead) (.cons (.const .dead) (.cons (.const .dead) (.cons (.const .dead) (.cons (.const .dead) (.cons (.const .dead) (.cons (.const .dead) (.cons (.const .dead) (.cons (.const .dead) (.cons (.const .dead) (.cons (.const .dead) (.cons (.const .dead) (.cons (.const .dead) (.cons (.const .dead) (.cons (.const .dead) (.cons (.const .dead) (.cons (.const .dead) (.cons (.const .dead) (.cons (.const .dead) (.cons (.const .dead) (.cons (.const .dead) (.cons (.const .dead) (.cons (.const .dead) (.cons (.const .dead) (.cons (.const .dead) (.cons (.const .dead) (.cons (.const .dead) (.cons (.const .dead) (.cons (.const .dead) (.cons (.const .dead) (.cons (.const .dead) (.cons (.const .dead) (.cons (.const .dead) (.cons (.const .dead) (.cons (.const .dead) (.cons (.const .dead) (.cons (.const .dead) (.cons (.const .dead) (.cons (.const .dead) .nil)))))))))))))))))))))))))))))))))))))))))))))))))))), [(0, .cells (.cons (.leaf (.int .i64)) (.cons (.const (.slw 2)) (.cons (.const (.slw 3)) .nil)))), (1, .cells (.cons (.const (.ptr 0 0 0)) .nil)), (2, .row 9 (.cons .str .nil)), (3, .row 127 (.cons (.int .i64) (.cons .str .nil)))]⟩]
abbrev LT_disk_Disk_keep_v1_1 : Type := (Unit × Int × Int × Unit)
abbrev LM_disk_Disk_keep_v1_1 : Type := ((Int × Unit) × Unit × List ByteArray × (List (Int × ByteArray)) × Unit)
abbrev LO_disk_Disk_keep_v1_1 : Type := Unit × ((Int × Unit) × Unit × List ByteArray × (List (Int × ByteArray)) × Unit)
def ltree_disk_Disk_keep_v1_1 (F_disk_Disk_Flush_1 : A_disk_Disk_Flush_1 → M_disk_Disk_Flush_1 → Option O_disk_Disk_Flush_1) {α : Type} (x1 : Int) (x2 : Int) (x3 : Int) (x4 : List ByteArray) (x5 : List (Int × ByteArray)) (kn : LT_disk_Disk_keep_v1_1 → LM_disk_Disk_keep_v1_1 → Option α) (kr : LO_disk_Disk_keep_v1_1 → Option α) : Option α :=
  cond (decide (x2 < x1))
  (cond (decide (0 ≤ x2))
   (cond (decide (x2 < (↑x5.length : Int)))
    ((F_disk_Disk_Flush_1 (x2, ()) ((), (x3, ()), x4, x5, ())).bind fun r1 =>
     cond (decide (0 ≤ if x3 < if 0 > r1.fst then 0 else r1.fst then x3 else if 0 > r1.fst then 0 else r1.fst))
     (cond (decide   ((if x3 < if 0 > r1.fst then 0 else r1.fst then x3 else if 0 > r1.fst then 0 else r1.fst) ≤     (↑(x5.getD (0 + x2.toNat) (0, ByteArray.empty)).snd.size : Int)))
      (cond (decide (0 ≤ (x5.getD (0 + x2.toNat) (0, ByteArray.empty)).fst))
       (cond (decide ((x5.getD (0 + x2.toNat) (0, ByteArray.empty)).fst < (↑x4.length : Int)))
        (cond (decide (0 ≤ if x3 < if 0 > r1.fst then 0 else r1.fst then x3 else if 0 > r1.fst then 0 else r1.fst))
         (cond (decide   ((if x3 < if 0 > r1.fst then 0 else r1.fst then x3 else if 0 > r1.fst then 0 else r1.fst) ≤     (↑(x4.getD (0 + (x5.getD (0 + x2.toNat) (0, ByteArray.empty)).fst.toNat) ByteArray.empty).size : Int)))
          (cond (decide   (((x5.getD (0 + x2.toNat) (0, ByteArray.empty)).snd.extract 0           (if x3 < if 0 > r1.fst then 0 else r1.fst then x3 else if 0 > r1.fst then 0 else r1.fst).toNat).size +       ((x4.getD (0 + (x5.getD (0 + x2.toNat) (0, ByteArray.empty)).fst.toNat) ByteArray.empty).extract           (if x3 < if 0 > r1.fst then 0 else r1.fst then x3 else if 0 > r1.fst then 0 else r1.fst).toNat           (x4.getD (0 + (x5.getD (0 + x2.toNat) (0, ByteArray.empty)).fst.toNat) ByteArray.empty).size).size ≤     9223372036854775807))
           (cond (decide (0 ≤ (x5.getD (0 + x2.toNat) (0, ByteArray.empty)).fst))
            (cond (decide ((x5.getD (0 + x2.toNat) (0, ByteArray.empty)).fst < (↑x4.length : Int)))
             (kn ((), (x1, (IntKind.i64.wrap (x2 + 1), ()))) ((x3, ()), ((), (x4.set (0 + (x5.getD (0 + x2.toNat) (0, ByteArray.empty)).fst.toNat)   ((x5.getD (0 + x2.toNat) (0, ByteArray.empty)).snd.extract 0       (if x3 < if 0 > r1.fst then 0 else r1.fst then x3 else if 0 > r1.fst then 0 else r1.fst).toNat ++     (x4.getD (0 + (x5.getD (0 + x2.toNat) (0, ByteArray.empty)).fst.toNat) ByteArray.empty).extract       (if x3 < if 0 > r1.fst then 0 else r1.fst then x3 else if 0 > r1.fst then 0 else r1.fst).toNat       (x4.getD (0 + (x5.getD (0 + x2.toNat) (0, ByteArray.empty)).fst.toNat) ByteArray.empty).size), (x5, ())))))
             (none))
            (none))
           (none))
          (none))
         (none))
        (none))
       (none))
      (none))
     (none))
    (none))
   (none))
  (kr ((), ((x3, ()), ((), (x4, (x5, ()))))))
noncomputable def L_disk_Disk_keep_v1_1 : LT_disk_Disk_keep_v1_1 → LM_disk_Disk_keep_v1_1 → Option LO_disk_Disk_keep_v1_1 := fun x y => runL (fun p => (fun (a : LT_disk_Disk_keep_v1_1) (b : LM_disk_Disk_keep_v1_1) => ltree_disk_Disk_keep_v1_1 F_disk_Disk_Flush_1 a.2.1 a.2.2.1 b.1.1 b.2.2.1 b.2.2.2.1 (fun a' b' => some (.inl (a', b'))) fun r => some (.inr r)) p.1 p.2) (x, y)
theorem nl_disk_Disk_keep_v1_1 (F_disk_Disk_Flush_1 : A_disk_Disk_Flush_1 → M_disk_Disk_Flush_1 → Option O_disk_Disk_Flush_1) (x1 : Int) (x2 : Int) (x3 : Int) (x4 : List ByteArray) (x5 : List (Int × ByteArray)) {α : Type} (kn : LT_disk_Disk_keep_v1_1 → LM_disk_Disk_keep_v1_1 → Option α) (kr : LO_disk_Disk_keep_v1_1 → Option α) : ltree_disk_Disk_keep_v1_1 F_disk_Disk_Flush_1 x1 x2 x3 x4 x5 kn kr = (ltree_disk_Disk_keep_v1_1 F_disk_Disk_Flush_1 x1 x2 x3 x4 x5 (fun a b => some (.inl (a, b))) fun r => some (.inr r)).bind (Sum.elim (fun p : LT_disk_Disk_keep_v1_1 × LM_disk_Disk_keep_v1_1 => kn p.1 p.2) kr) := by simp only [ltree_disk_Disk_keep_v1_1, bind_cond, bind_none', bind_some', bind_bind', bind_sum, Sum.elim_inl, Sum.elim_inr]
theorem Le_disk_Disk_keep_v1_1 (x1 : Int) (x2 : Int) (x3 : Int) (x4 : List ByteArray) (x5 : List (Int × ByteArray)) : L_disk_Disk_keep_v1_1 ((), (x1, (x2, ()))) ((x3, ()), ((), (x4, (x5, ())))) = ltree_disk_Disk_keep_v1_1 F_disk_Disk_Flush_1 x1 x2 x3 x4 x5 L_disk_Disk_keep_v1_1 some := runL_tree (A := LT_disk_Disk_keep_v1_1) (B := LM_disk_Disk_keep_v1_1) (R := LO_disk_Disk_keep_v1_1) (fun a b kn kr => ltree_disk_Disk_keep_v1_1 F_disk_Disk_Flush_1 a.2.1 a.2.2.1 b.1.1 b.2.2.1 b.2.2.2.1 kn kr) (fun a b kn kr => nl_disk_Disk_keep_v1_1 F_disk_Disk_Flush_1 a.2.1 a.2.2.1 b.1.1 b.2.2.1 b.2.2.2.1 kn kr) ((), (x1, (x2, ()))) ((x3, ()), ((), (x4, (x5, ()))))
def tree_disk_Disk_keep_v1 (L_disk_Disk_keep_v1_1 : LT_disk_Disk_keep_v1_1 → LM_disk_Disk_keep_v1_1 → Option LO_disk_Disk_keep_v1_1) {α : Type} (x1 : Int) (x2 : List ByteArray) (x3 : List (Int × ByteArray)) (K : O_disk_Disk_keep_v1 → Option α) : Option α :=
  (L_disk_Disk_keep_v1_1 ((), (↑x3.length : Int), 0, ()) ((x1, ()), (), x2, x3, ())).bind fun r1 =>
  K ((), ((r1.snd.fst.fst, ()), ((), (r1.snd.snd.snd.fst, ((), ([], ()))))))
noncomputable def F_disk_Disk_keep_v1 : A_disk_Disk_keep_v1 → M_disk_Disk_keep_v1 → Option O_disk_Disk_keep_v1 := fun a b => tree_disk_Disk_keep_v1 L_disk_Disk_keep_v1_1 b.1.1 b.2.2.1 b.2.2.2.1 some
theorem n_disk_Disk_keep_v1 (L_disk_Disk_keep_v1_1 : LT_disk_Disk_keep_v1_1 → LM_disk_Disk_keep_v1_1 → Option LO_disk_Disk_keep_v1_1) (x1 : Int) (x2 : List ByteArray) (x3 : List (Int × ByteArray)) {α : Type} (K : O_disk_Disk_keep_v1 → Option α) : tree_disk_Disk_keep_v1 L_disk_Disk_keep_v1_1 x1 x2 x3 K = (tree_disk_Disk_keep_v1 L_disk_Disk_keep_v1_1 x1 x2 x3 some).bind K := by simp only [tree_disk_Disk_keep_v1, bind_cond, bind_none', bind_some', bind_bind', bind_sum]
theorem Fe_disk_Disk_keep_v1 (x1 : Int) (x2 : List ByteArray) (x3 : List (Int × ByteArray)) : F_disk_Disk_keep_v1 ((), ()) ((x1, ()), ((), (x2, (x3, ())))) = tree_disk_Disk_keep_v1 L_disk_Disk_keep_v1_1 x1 x2 x3 some := rfl

/-! (*countersign/disk.Disk).keep -/
def args_disk_Disk_keep_v2 : SkL := (.cons (.const (.ptr 0 0 0)) (.cons (.fn 63 (.cons (.const (.ptr 1 0 0)) .nil)) .nil))
def mem_disk_Disk_keep_v2 : MSk := [(0, .cells (.cons (.leaf (.int .i64)) (.cons (.const (.slw 2)) (.cons (.const (.slw 3)) .nil)))), (1, .cells (.cons (.leaf (.slc 3 (.cons (.int .i64) .nil))) .nil)), (2, .row 9 (.cons .str .nil)), (3, .row 127 (.cons (.int .i64) (.cons .str .nil)))]
def outs_disk_Disk_keep_v2 : List OutC := [⟨(.tup .nil), [(0, .cells (.cons (.leaf (.int .i64)) (.cons (.const (.slw 2)) (.cons (.const (.slw 4)) .nil)))), (1, .cells (.cons (.leaf (.slc 3 (.cons (.int .i64) .nil))) .nil)), (2, .row 9 (.cons .str .nil)), (3, .gone), (4, .row 127 (.cons (.int .i64) (.cons .str .nil)))]⟩]
abbrev A_disk_Disk_keep_v2 : Type := (Unit × Unit)
abbrev M_disk_Disk_keep_v2 : Type := ((Int × Unit) × (List Int × Unit) × List ByteArray × (List (Int × ByteArray)) × Unit)
abbrev O_disk_Disk_keep_v2 : Type := Unit × ((Int × Unit) × (List Int × Unit) × List ByteArray × Unit × (List (Int × ByteArray)) × Unit)
def ltmps_disk_Disk_keep_v2_1 : SkL := (.cons (.const (.ptr 0 0 0)) (.cons (.fn 63 (.cons (.const (.ptr 1 0 0)) .nil)) (.cons (.const .dead) (.cons (.const .dead) (.cons (.const .dead) (.cons (.const .dead) (.cons (.const .dead) (.cons (.const .dead) (.cons (.const .dead) (.cons (.const .dead) (.cons (.const (.slw 3)) (.cons (.leaf (.int .i64)) (.cons (.leaf (.int .i64)) (.cons (.const .dead) (.cons (.const .dead) (.cons (.const .dead) (.cons (.const .dead) (.cons (.const .dead) (.cons (.const .dead) (.cons (.const .dead) (.cons (.const .dead) (.cons (.const .dead) (.cons (.const .dead) (.cons (.const .dead) (.cons (.const .dead) (.cons (.const .dead) (.cons (.const .dead) (.cons (.const .dead) (.cons (.const .dead) (.cons (.const .dead) (.cons (.const .dead) (.cons (.const .dead) (.cons (.const .dead) (.cons (.const .dead) (.cons (.const .dead) (.cons (.const .dead) (.cons (.const .dead) (.cons (.const .dead) (.cons (.const .dead) (.cons (.const .dead) (.cons (.const .dead) (.cons (.const .dead) (.cons (.const .dead) (.cons (.const .dead) (.cons (.const .dead) (.cons (.const .dead) (.cons (.const .dead) (.cons (.const .dead) (.cons (.const .dead) (.cons (.const .dead) (.cons (.const .dead) (.cons (.const .dead) .nil))))))))))))))))))))))))))))))))))))))))))))))))))))
def lmem_disk_Disk_keep_v2_1 : MSk := [(0, .cells (.cons (.leaf (.int .i64)) (.cons (.const (.slw 2)) (.cons (.const (.slw 3)) .nil)))), (1, .cells (.cons (.leaf (.slc 3 (.cons (.int .i64) .nil))) .nil)), (2, .row 9 (.cons .str .nil)), (3, .row 127 (.cons (.int .i64) (.cons .str .nil)))]
def louts_disk_Disk_keep_v2_1 : List OutL := [⟨(.exit 0), (.cons (.const (.ptr 0 0 0)) (.cons (.const .dead) (.cons (.const .dead) (.cons (.const .dead) (.cons (.const .dead) (.cons (.const .dead) (.cons (.const .dead) (.cons (.const .dead) (.cons (.const .dead) (.cons (.const .dead) (.cons (.const .dead) (.cons (.const .dead) (.cons (.const .dead) (.cons (.const .dead) (.cons (.const .dead) (.cons (.const .dead) (.cons (.const .dead) (.cons (.const .dead) (.cons (.const .dead) (.cons (.const .dead) (.cons (.const .dead) (.cons (.const .dead) (.cons (.const .dead) (.cons (.const .dead) (.cons (.const .dead) (.cons (.const .dead) (.cons (.const .dead) (.cons (.const .dead) (.cons (.const .dead) (.cons (.const .dead) (.cons (.const .dead) (.cons (.const .dead) (.cons (.const .dead) (.cons (.const .dead) (.cons (.const .dead) (.cons (.const .dead) (.cons (.const .dead) (.cons (.const .dead) (.cons (.const .dead) (.cons (.const .dead) (.cons (.const .dead) (.cons (.const .dead) (.cons (.const .dead) (.cons (.const .dead) (.cons (.const .dead) (.cons (.const .dead) (.cons (.const .dead) (.cons (.const .dead) (.cons (.const .dead) (.cons (.const .dead) (.cons (.const .dead) (.cons (.const .dead) .nil)))))))))))))))))))))))))))))))))))))))))))))))))))), [(0, .cells (.cons (.leaf (.int .i64)) (.cons (.const (.slw 2)) (.cons (.const (.slw 3)) .nil)))), (1, .cells (.cons (.leaf (.slc 3 (.cons (.int .i64) .nil))) .nil)), (2, .row 9 (.cons .str .nil)), (3, .row 127 (.cons (.int .i64) (.cons .str .nil)))]⟩]
abbrev LT_disk_Disk_keep_v2_1 : Type := (Unit × Int × Int × Unit)
abbrev LM_disk_Disk_keep_v2_1 : Type := ((Int × Unit) × (List Int × Unit) × List ByteArray × (List (Int × ByteArray)) × Unit)
abbrev LO_disk_Disk_keep_v2_1 : Type := Unit × ((Int × Unit) × (List Int × Unit) × List ByteArray × (List (Int × ByteArray)) × Unit)
def ltree_disk_Disk_keep_v2_1 (F_disk_Disk_Crash_1 : A_disk_Disk_Crash_1 → M_disk_Disk_Crash_1 → Option O_disk_Disk_Crash_1) {α : Type} (x1 : Int) (x2 : Int) (x3 : Int) (x4 : List Int) (x5 : List ByteArray) (x6 : List (Int × ByteArray)) (kn : LT_disk_Disk_keep_v2_1 → LM_disk_Disk_keep_v2_1 → Option α) (kr : LO_disk_Disk_keep_v2_1 → Option α) : Option α :=
  cond (decide (x2 < x1))
  (cond (decide (0 ≤ x2))
   (cond (decide (x2 < (↑x6.length : Int)))
    ((F_disk_Disk_Crash_1 (x2, ()) ((x4, ()), ())).bind fun r1 =>
     cond (decide (0 ≤ if x3 < if 0 > r1.fst then 0 else r1.fst then x3 else if 0 > r1.fst then 0 else r1.fst))
     (cond (decide   ((if x3 < if 0 > r1.fst then 0 else r1.fst then x3 else if 0 > r1.fst then 0 else r1.fst) ≤     (↑(x6.getD (0 + x2.toNat) (0, ByteArray.empty)).snd.size : Int)))
      (cond (decide (0 ≤ (x6.getD (0 + x2.toNat) (0, ByteArray.empty)).fst))
       (cond (decide ((x6.getD (0 + x2.toNat) (0, ByteArray.empty)).fst < (↑x5.length : Int)))
        (cond (decide (0 ≤ if x3 < if 0 > r1.fst then 0 else r1.fst then x3 else if 0 > r1.fst then 0 else r1.fst))
         (cond (decide   ((if x3 < if 0 > r1.fst then 0 else r1.fst then x3 else if 0 > r1.fst then 0 else r1.fst) ≤     (↑(x5.getD (0 + (x6.getD (0 + x2.toNat) (0, ByteArray.empty)).fst.toNat) ByteArray.empty).size : Int)))
          (cond (decide   (((x6.getD (0 + x2.toNat) (0, ByteArray.empty)).snd.extract 0           (if x3 < if 0 > r1.fst then 0 else r1.fst then x3 else if 0 > r1.fst then 0 else r1.fst).toNat).size +       ((x5.getD (0 + (x6.getD (0 + x2.toNat) (0, ByteArray.empty)).fst.toNat) ByteArray.empty).extract           (if x3 < if 0 > r1.fst then 0 else r1.fst then x3 else if 0 > r1.fst then 0 else r1.fst).toNat           (x5.getD (0 + (x6.getD (0 + x2.toNat) (0, ByteArray.empty)).fst.toNat) ByteArray.empty).size).size ≤     9223372036854775807))
           (cond (decide (0 ≤ (x6.getD (0 + x2.toNat) (0, ByteArray.empty)).fst))
            (cond (decide ((x6.getD (0 + x2.toNat) (0, ByteArray.empty)).fst < (↑x5.length : Int)))
             (kn ((), (x1, (IntKind.i64.wrap (x2 + 1), ()))) ((x3, ()), ((x4, ()), (x5.set (0 + (x6.getD (0 + x2.toNat) (0, ByteArray.empty)).fst.toNat)   ((x6.getD (0 + x2.toNat) (0, ByteArray.empty)).snd.extract 0       (if x3 < if 0 > r1.fst then 0 else r1.fst then x3 else if 0 > r1.fst then 0 else r1.fst).toNat ++     (x5.getD (0 + (x6.getD (0 + x2.toNat) (0, ByteArray.empty)).fst.toNat) ByteArray.empty).extract       (if x3 < if 0 > r1.fst then 0 else r1.fst then x3 else if 0 > r1.fst then 0 else r1.fst).toNat       (x5.getD (0 + (x6.getD (0 + x2.toNat) (0, ByteArray.empty)).fst.toNat) ByteArray.empty).size), (x6, ())))))
             (none))
            (none))
           (none))
          (none))
         (none))
        (none))
       (none))
      (none))
     (none))
    (none))
   (none))
  (kr ((), ((x3, ()), ((x4, ()), (x5, (x6, ()))))))
noncomputable def L_disk_Disk_keep_v2_1 : LT_disk_Disk_keep_v2_1 → LM_disk_Disk_keep_v2_1 → Option LO_disk_Disk_keep_v2_1 := fun x y => runL (fun p => (fun (a : LT_disk_Disk_keep_v2_1) (b : LM_disk_Disk_keep_v2_1) => ltree_disk_Disk_keep_v2_1 F_disk_Disk_Crash_1 a.2.1 a.2.2.1 b.1.1 b.2.1.1 b.2.2.1 b.2.2.2.1 (fun a' b' => some (.inl (a', b'))) fun r => some (.inr r)) p.1 p.2) (x, y)
theorem nl_disk_Disk_keep_v2_1 (F_disk_Disk_Crash_1 : A_disk_Disk_Crash_1 → M_disk_Disk_Crash_1 → Option O_disk_Disk_Crash_1) (x1 : Int) (x2 : Int) (x3 : Int) (x4 : List Int) (x5 : List ByteArray) (x6 : List (Int × ByteArray)) {α : Type} (kn : LT_disk_Disk_keep_v2_1 → LM_disk_Disk_keep_v2_1 → Option α) (kr : LO_disk_Disk_keep_v2_1 → Option α) : ltree_disk_Disk_keep_v2_1 F_disk_Disk_Crash_1 x1 x2 x3 x4 x5 x6 kn kr = (ltree_disk_Disk_keep_v2_1 F_disk_Disk_Crash_1 x1 x2 x3 x4 x5 x6 (fun a b => some (.inl (a, b))) fun r => some (.inr r)).bind (Sum.elim (fun p : LT_disk_Disk_keep_v2_1 × LM_disk_Disk_keep_v2_1 => kn p.1 p.2) kr) := by simp only [ltree_disk_Disk_keep_v2_1, bind_cond, bind_none', bind_some', bind_bind', bind_sum, Sum.elim_inl, Sum.elim_inr]
theorem Le_disk_Disk_keep_v2_1 (x1 : Int) (x2 : Int) (x3 : Int) (x4 : List Int) (x5 : List ByteArray) (x6 : List (Int × ByteArray)) : L_disk_Disk_keep_v2_1 ((), (x1, (x2, ()))) ((x3, ()), ((x4, ()), (x5, (x6, ())))) = ltree_disk_Disk_keep_v2_1 F_disk_Disk_Crash_1 x1 x2 x3 x4 x5 x6 L_disk_Disk_keep_v2_1 some := runL_tree (A := LT_disk_Disk_keep_v2_1) (B := LM_disk_Disk_keep_v2_1) (R := LO_disk_Disk_keep_v2_1) (fun a b kn kr => ltree_disk_Disk_keep_v2_1 F_disk_Disk_Crash_1 a.2.1 a.2.2.1 b.1.1 b.2.1.1 b.2.2.1 b.2.2.2.1 kn kr) (fun a b kn kr => nl_disk_Disk_keep_v2_1 F_disk_Disk_Crash_1 a.2.1 a.2.2.1 b.1.1 b.2.1.1 b.2.2.1 b.2.2.2.1 kn kr) ((), (x1, (x2, ()))) ((x3, ()), ((x4, ()), (x5, (x6, ()))))
def tree_disk_Disk_keep_v2 (L_disk_Disk_keep_v2_1 : LT_disk_Disk_keep_v2_1 → LM_disk_Disk_keep_v2_1 → Option LO_disk_Disk_keep_v2_1) {α : Type} (x1 : Int) (x2 : List Int) (x3 : List ByteArray) (x4 : List (Int × ByteArray)) (K : O_disk_Disk_keep_v2 → Option α) : Option α :=
  (L_disk_Disk_keep_v2_1 ((), (↑x4.length : Int), 0, ()) ((x1, ()), (x2, ()), x3, x4, ())).bind fun r1 =>
  K ((), ((r1.snd.fst.fst, ()), ((r1.snd.snd.fst.fst, ()), (r1.snd.snd.snd.fst, ((), ([], ()))))))
noncomputable def F_disk_Disk_keep_v2 : A_disk_Disk_keep_v2 → M_disk_Disk_keep_v2 → Option O_disk_Disk_keep_v2 := fun a b => tree_disk_Disk_keep_v2 L_disk_Disk_keep_v2_1 b.1.1 b.2.1.1 b.2.2.1 b.2.2.2.1 some
theorem n_disk_Disk_keep_v2 (L_disk_Disk_keep_v2_1 : LT_disk_Disk_keep_v2_1 → LM_disk_Disk_keep_v2_1 → Option LO_disk_Disk_keep_v2_1) (x1 : Int) (x2 : List Int) (x3 : List ByteArray) (x4 : List (Int × ByteArray)) {α : Type} (K : O_disk_Disk_keep_v2 → Option α) : tree_disk_Disk_keep_v2 L_disk_Disk_keep_v2_1 x1 x2 x3 x4 K = (tree_disk_Disk_keep_v2 L_disk_Disk_keep_v2_1 x1 x2 x3 x4 some).bind K := by simp only [tree_disk_Disk_keep_v2, bind_cond, bind_none', bind_some', bind_bind', bind_sum]
theorem Fe_disk_Disk_keep_v2 (x1 : Int) (x2 : List Int) (x3 : List ByteArray) (x4 : List (Int × ByteArray)) : F_disk_Disk_keep_v2 ((), ()) ((x1, ()), ((x2, ()), (x3, (x4, ())))) = tree_disk_Disk_keep_v2 L_disk_Disk_keep_v2_1 x1 x2 x3 x4 some := rfl

/-! (*countersign/disk.Disk).Flush -/
def args_disk_Disk_Flush : SkL := (.cons (.const (.ptr 0 0 0)) .nil)
def mem_disk_Disk_Flush : MSk := [(0, .cells (.cons (.leaf (.int .i64)) (.cons (.const (.slw 1)) (.cons (.const (.slw 2)) .nil)))), (1, .row 9 (.cons .str .nil)), (2, .row 127 (.cons (.int .i64) (.cons .str .nil)))]
def outs_disk_Disk_Flush : List OutC := [⟨(.tup .nil), [(0, .cells (.cons (.leaf (.int .i64)) (.cons (.const (.slw 1)) (.cons (.const (.slw 3)) .nil)))), (1, .row 9 (.cons .str .nil)), (2, .gone), (3, .row 127 (.cons (.int .i64) (.cons .str .nil)))]⟩]
abbrev A_disk_Disk_Flush : Type := Unit
abbrev M_disk_Disk_Flush : Type := ((Int × Unit) × List ByteArray × (List (Int × ByteArray)) × Unit)
abbrev O_disk_Disk_Flush : Type := Unit × ((Int × Unit) × List ByteArray × Unit × (List (Int × ByteArray)) × Unit)
def tree_disk_Disk_Flush (F_disk_Disk_keep_v1 : A_disk_Disk_keep_v1 → M_disk_Disk_keep_v1 → Option O_disk_Disk_keep_v1) {α : Type} (x1 : Int) (x2 : List ByteArray) (x3 : List (Int × ByteArray)) (K : O_disk_Disk_Flush → Option α) : Option α :=
  (F_disk_Disk_keep_v1 ((), ()) ((x1, ()), (), x2, x3, ())).bind fun r1 =>
  K ((), ((r1.snd.fst.fst, ()), (r1.snd.snd.snd.fst, ((), (r1.snd.snd.snd.snd.snd.fst, ())))))
noncomputable def F_disk_Disk_Flush : A_disk_Disk_Flush → M_disk_Disk_Flush → Option O_disk_Disk_Flush := fun a b => tree_disk_Disk_Flush F_disk_Disk_keep_v1 b.1.1 b.2.1 b.2.2.1 some
theorem n_disk_Disk_Flush (F_disk_Disk_keep_v1 : A_disk_Disk_keep_v1 → M_disk_Disk_keep_v1 → Option O_disk_Disk_keep_v1) (x1 : Int) (x2 : List ByteArray) (x3 : List (Int × ByteArray)) {α : Type} (K : O_disk_Disk_Flush → Option α) : tree_disk_Disk_Flush F_disk_Disk_keep_v1 x1 x2 x3 K = (tree_disk_Disk_Flush F_disk_Disk_keep_v1 x1 x2 x3 some).bind K := by simp only [tree_disk_Disk_Flush, bind_cond, bind_none', bind_some', bind_bind', bind_sum]
theorem Fe_disk_Disk_Flush (x1 : Int) (x2 : List ByteArray) (x3 : List (Int × ByteArray)) : F_disk_Disk_Flush () ((x1, ()), (x2, (x3, ()))) = tree_disk_Disk_Flush F_disk_Disk_keep_v1 x1 x2 x3 some := rfl

/-! (*countersign/disk.Disk).Crash -/
def args_disk_Disk_Crash : SkL := (.cons (.const (.ptr 0 0 0)) (.cons (.leaf (.slc 3 (.cons (.int .i64) .nil))) .nil))
def mem_disk_Disk_Crash : MSk := [(0, .cells (.cons (.leaf (.int .i64)) (.cons (.const (.slw 1)) (.cons (.const (.slw 2)) .nil)))), (1, .row 9 (.cons .str .nil)), (2, .row 127 (.cons (.int .i64) (.cons .str .nil)))]
def outs_disk_Disk_Crash : List OutC := [⟨(.tup .nil), [(0, .cells (.cons (.leaf (.int .i64)) (.cons (.const (.slw 1)) (.cons (.const (.slw 3)) .nil)))), (1, .row 9 (.cons .str .nil)), (2, .gone), (3, .row 127 (.cons (.int .i64) (.cons .str .nil)))]⟩]
abbrev A_disk_Disk_Crash : Type := (List Int × Unit)
abbrev M_disk_Disk_Crash : Type := ((Int × Unit) × List ByteArray × (List (Int × ByteArray)) × Unit)
abbrev O_disk_Disk_Crash : Type := Unit × ((Int × Unit) × List ByteArray × Unit × (List (Int × ByteArray)) × Unit)
def tree_disk_Disk_Crash (F_disk_Disk_keep_v2 : A_disk_Disk_keep_v2 → M_disk_Disk_keep_v2 → Option O_disk_Disk_keep_v2) {α : Type} (x1 : List Int) (x2 : Int) (x3 : List ByteArray) (x4 : List (Int × ByteArray)) (K : O_disk_Disk_Crash → Option α) : Option α :=
  (F_disk_Disk_keep_v2 ((), ()) ((x2, ()), (x1, ()), x3, x4, ())).bind fun r1 =>
  K ((), ((r1.snd.fst.fst, ()), (r1.snd.snd.snd.fst, ((), (r1.snd.snd.snd.snd.snd.fst, ())))))
noncomputable def F_disk_Disk_Crash : A_disk_Disk_Crash → M_disk_Disk_Crash → Option O_disk_Disk_Crash := fun a b => tree_disk_Disk_Crash F_disk_Disk_keep_v2 a.1 b.1.1 b.2.1 b.2.2.1 some
theorem n_disk_Disk_Crash (F_disk_Disk_keep_v2 : A_disk_Disk_keep_v2 → M_disk_Disk_keep_v2 → Option O_disk_Disk_keep_v2) (x1 : List Int) (x2 : Int) (x3 : List ByteArray) (x4 : List (Int × ByteArray)) {α : Type} (K : O_disk_Disk_Crash → Option α) : tree_disk_Disk_Crash F_disk_Disk_keep_v2 x1 x2 x3 x4 K = (tree_disk_Disk_Crash F_disk_Disk_keep_v2 x1 x2 x3 x4 some).bind K := by simp only [tree_disk_Disk_Crash, bind_cond, bind_none', bind_some', bind_bind', bind_sum]
theorem Fe_disk_Disk_Crash (x1 : List Int) (x2 : Int) (x3 : List ByteArray) (x4 : List (Int × ByteArray)) : F_disk_Disk_Crash (x1, ()) ((x2, ()), (x3, (x4, ()))) = tree_disk_Disk_Crash F_disk_Disk_keep_v2 x1 x2 x3 x4 some := rfl

/-! (*countersign/disk.Disk).Write -/
def args_disk_Disk_Write : SkL := (.cons (.const (.ptr 0 0 0)) (.cons (.leaf (.int .i64)) (.cons (.leaf .str) .nil)))
def mem_disk_Disk_Write : MSk := [(0, .cells (.cons (.leaf (.int .i64)) (.cons (.const (.slw 1)) (.cons (.const (.slw 2)) .nil)))), (1, .row 9 (.cons .str .nil)), (2, .row 127 (.cons (.int .i64) (.cons .str .nil)))]
def outs_disk_Disk_Write : List OutC := [⟨(.leaf .bool), [(0, .cells (.cons (.leaf (.int .i64)) (.cons (.const (.slw 1)) (.cons (.const (.slw 3)) .nil)))), (1, .row 9 (.cons .str .nil)), (2, .gone), (3, .row 127 (.cons (.int .i64) (.cons .str .nil)))]⟩]
abbrev A_disk_Disk_Write : Type := (Int × ByteArray × Unit)
abbrev M_disk_Disk_Write : Type := ((Int × Unit) × List ByteArray × (List (Int × ByteArray)) × Unit)
abbrev O_disk_Disk_Write : Type := Bool × ((Int × Unit) × List ByteArray × Unit × (List (Int × ByteArray)) × Unit)
def tree_disk_Disk_Write (F_disk_Disk_has : A_disk_Disk_has → M_disk_Disk_has → Option O_disk_Disk_has) (F_strings_Repeat : A_strings_Repeat → M_strings_Repeat → Option O_strings_Repeat) {α : Type} (x1 : Int) (x2 : ByteArray) (x3 : Int) (x4 : List ByteArray) (x5 : List (Int × ByteArray)) (K : O_disk_Disk_Write → Option α) : Option α :=
  (F_disk_Disk_has (x1, ()) ((x3, ()), x4, x5, ())).bind fun r1 =>
  cond (!r1.fst)
  (K (false, ((x3, ()), (x4, ((), (x5, ()))))))
  (cond (decide ((↑x2.size : Int) > x3))
   (K (false, ((x3, ()), (x4, ((), (x5, ()))))))
   ((F_strings_Repeat ((ByteArray.mk #[0]), IntKind.i64.wrap (x3 - (↑x2.size : Int)), ()) ()).bind fun r2 =>
    cond (decide (x2.size + r2.fst.size ≤ 9223372036854775807))
    (cond (decide ((x5.length + 1) * 24 ≤ 140737488355328))
     (K (true, ((x3, ()), (x4, ((), (x5 ++ ([] ++ [(x1, x2 ++ r2.fst)]), ()))))))
     (none))
    (none)))
noncomputable def F_disk_Disk_Write : A_disk_Disk_Write → M_disk_Disk_Write → Option O_disk_Disk_Write := fun a b => tree_disk_Disk_Write F_disk_Disk_has F_strings_Repeat a.1 a.2.1 b.1.1 b.2.1 b.2.2.1 some
theorem n_disk_Disk_Write (F_disk_Disk_has : A_disk_Disk_has → M_disk_Disk_has → Option O_disk_Disk_has) (F_strings_Repeat : A_strings_Repeat → M_strings_Repeat → Option O_strings_Repeat) (x1 : Int) (x2 : ByteArray) (x3 : Int) (x4 : List ByteArray) (x5 : List (Int × ByteArray)) {α : Type} (K : O_disk_Disk_Write → Option α) : tree_disk_Disk_Write F_disk_Disk_has F_strings_Repeat x1 x2 x3 x4 x5 K = (tree_disk_Disk_Write F_disk_Disk_has F_strings_Repeat x1 x2 x3 x4 x5 some).bind K := by simp only [tree_disk_Disk_Write, bind_cond, bind_none', bind_some', bind_bind', bind_sum]
theorem Fe_disk_Disk_Write (x1 : Int) (x2 : ByteArray) (x3 : Int) (x4 : List ByteArray) (x5 : List (Int × ByteArray)) : F_disk_Disk_Write (x1, (x2, ())) ((x3, ()), (x4, (x5, ()))) = tree_disk_Disk_Write F_disk_Disk_has F_strings_Repeat x1 x2 x3 x4 x5 some := rfl

/-! countersign/disk.New -/
def args_disk_New : SkL := (.cons (.leaf (.int .i64)) (.cons (.leaf (.int .i64)) .nil))
def mem_disk_New : MSk := []
def outs_disk_New : List OutC := [⟨(.tup (.cons (.const .nilp) (.cons (.const (.bool Bool.false)) .nil))), []⟩, ⟨(.tup (.cons (.const (.ptr 0 0 0)) (.cons (.const (.bool Bool.true)) .nil))), [(0, .cells (.cons (.leaf (.int .i64)) (.cons (.const (.slw 1)) (.cons (.const (.slw 2)) .nil)))), (1, .row 9 (.cons .str .nil)), (2, .row 127 (.cons (.int .i64) (.cons .str .nil)))]⟩]
abbrev A_disk_New : Type := (Int × Int × Unit)
abbrev M_disk_New : Type := Unit
abbrev O_disk_New : Type := (Unit × Unit) ⊕ (Unit × ((Int × Unit) × List ByteArray × (List (Int × ByteArray)) × Unit))
def ltmps_disk_New_5 : SkL := (.cons (.const .dead) (.cons (.leaf (.int .i64)) (.cons (.const .dead) (.cons (.const .dead) (.cons (.const .dead) (.cons (.const .dead) (.cons (.const (.ptr 1736 0 0)) (.cons (.const .dead) (.cons (.const .dead) (.cons (.const .dead) (.cons (.const .dead) (.cons (.const .dead) (.cons (.const .dead) (.cons (.const .dead) (.cons (.const .dead) (.cons (.const .dead) (.cons (.const .dead) (.cons (.const .dead) (.cons (.const .dead) (.cons (.const .dead) (.cons (.const .dead) (.cons (.const .dead) (.cons (.const .dead) (.cons (.const .dead) (.cons (.leaf (.int .i64)) (.cons (.leaf (.int .i64)) (.cons (.const .dead) (.cons (.const .dead) (.cons (.const .dead) (.cons (.const .dead) (.cons (.const .dead) (.cons (.const .dead) (.cons (.const .dead) (.cons (.const .dead) (.cons (.const .dead) (.cons (.const .dead) (.cons (.const .dead) (.cons (.const .dead) (.cons (.const .dead) (.cons (.const .dead) .nil))))))))))))))))))))))))))))))))))))))))
def lmem_disk_New_5 : MSk := [(501, .row 9 (.cons .str .nil)), (1736, .cells (.cons (.leaf (.int .i64)) (.cons (.const (.slw 501)) (.cons (.const .nils) .nil))))]
def louts_disk_New_5 : List OutL := [⟨(.exit 0), (.cons (.const .dead) (.cons (.const .dead) (.cons (.const .dead) (.cons (.const .dead) (.cons (.const .dead) (.cons (.const .dead) (.cons (.const (.ptr 1736 0 0)) (.cons (.const .dead) (.cons (.const .dead) (.cons (.const .dead) (.cons (.const .dead) (.cons (.const .dead) (.cons (.const .dead) (.cons (.const .dead) (.cons (.const .dead) (.cons (.const .dead) (.cons (.const .dead) (.cons (.const .dead) (.cons (.const .dead) (.cons (.const .dead) (.cons (.const .dead) (.cons (.const .dead) (.cons (.const .dead) (.cons (.const .dead) (.cons (.const .dead) (.cons (.const .dead) (.cons (.const .dead) (.cons (.const .dead) (.cons (.const .dead) (.cons (.const .dead) (.cons (.const .dead) (.cons (.const .dead) (.cons (.const .dead) (.cons (.const .dead) (.cons (.const .dead) (.cons (.const .dead) (.cons (.const .dead) (.cons (.const .dead) (.cons (.const .dead) (.cons (.const .dead) .nil)))))))))))))))))))))))))))))))))))))))), [(501, .row 9 (.cons .str .nil)), (1736, .cells (.cons (.leaf (.int .i64)) (.cons (.const (.slw 501)) (.cons (.const .nils) .nil))))]⟩]
abbrev LT_disk_New_5 : Type := (Int × Int × Int × Unit)
abbrev LM_disk_New_5 : Type := (List ByteArray × (Int × Unit) × Unit)
abbrev LO_disk_New_5 : Type := Unit × (List ByteArray × (Int × Unit) × Unit)
def ltree_disk_New_5 (F_strings_Repeat : A_strings_Repeat → M_strings_Repeat → Option O_strings_Repeat) {α : Type} (x1 : Int) (x2 : Int) (x3 : Int) (x4 : List ByteArray) (x5 : Int) (kn : LT_disk_New_5 → LM_disk_New_5 → Option α) (kr : LO_disk_New_5 → Option α) : Option α :=
  cond (decide (x3 < x2))
  ((F_strings_Repeat ((ByteArray.mk #[0]), x1, ()) ()).bind fun r1 =>
   cond (decide ((x4.length + 1) * 16 ≤ 140737488355328))
   (kn (x1, (x2, (IntKind.i64.wrap (x3 + 1), ()))) (x4 ++ ([] ++ [r1.fst]), ((x5, ()), ())))
   (none))
  (kr ((), (x4, ((x5, ()), ()))))
noncomputable def L_disk_New_5 : LT_disk_New_5 → LM_disk_New_5 → Option LO_disk_New_5 := fun x y => runL (fun p => (fun (a : LT_disk_New_5) (b : LM_disk_New_5) => ltree_disk_New_5 F_strings_Repeat a.1 a.2.1 a.2.2.1 b.1 b.2.1.1 (fun a' b' => some (.inl (a', b'))) fun r => some (.inr r)) p.1 p.2) (x, y)
theorem nl_disk_New_5 (F_strings_Repeat : A_strings_Repeat → M_strings_Repeat → Option O_strings_Repeat) (x1 : Int) (x2 : Int) (x3 : Int) (x4 : List ByteArray) (x5 : Int) {α : Type} (kn : LT_disk_New_5 → LM_disk_New_5 → Option α) (kr : LO_disk_New_5 → Option α) : ltree_disk_New_5 F_strings_Repeat x1 x2 x3 x4 x5 kn kr = (ltree_disk_New_5 F_strings_Repeat x1 x2 x3 x4 x5 (fun a b => some (.inl (a, b))) fun r => some (.inr r)).bind (Sum.elim (fun p : LT_disk_New_5 × LM_disk_New_5 => kn p.1 p.2) kr) := by simp only [ltree_disk_New_5, bind_cond, bind_none', bind_some', bind_bind', bind_sum, Sum.elim_inl, Sum.elim_inr]
theorem Le_disk_New_5 (x1 : Int) (x2 : Int) (x3 : Int) (x4 : List ByteArray) (x5 : Int) : L_disk_New_5 (x1, (x2, (x3, ()))) (x4, ((x5, ()), ())) = ltree_disk_New_5 F_strings_Repeat x1 x2 x3 x4 x5 L_disk_New_5 some := runL_tree (A := LT_disk_New_5) (B := LM_disk_New_5) (R := LO_disk_New_5) (fun a b kn kr => ltree_disk_New_5 F_strings_Repeat a.1 a.2.1 a.2.2.1 b.1 b.2.1.1 kn kr) (fun a b kn kr => nl_disk_New_5 F_strings_Repeat a.1 a.2.1 a.2.2.1 b.1 b.2.1.1 kn kr) (x1, (x2, (x3, ()))) (x4, ((x5, ()), ()))
def tree_disk_New (L_disk_New_5 : LT_disk_New_5 → LM_disk_New_5 → Option LO_disk_New_5) {α : Type} (x1 : Int) (x2 : Int) (K : O_disk_New → Option α) : Option α :=
  cond (decide (x1 < 1))
  (K (.inl ((), ())))
  (cond (decide (x1 > 256))
   (K (.inl ((), ())))
   (cond (decide (x2 < 32))
    (K (.inl ((), ())))
    (cond (decide (x2 > 512))
     (K (.inl ((), ())))
     ((L_disk_New_5 (x2, x1, 0, ()) ([], (x2, ()), ())).bind fun r1 =>
      K (.inr ((), ((r1.snd.snd.fst.fst, ()), (r1.snd.fst, ([], ())))))))))
noncomputable def F_disk_New : A_disk_New → M_disk_New → Option O_disk_New := fun a b => tree_disk_New L_disk_New_5 a.1 a.2.1 some
theorem n_disk_New (L_disk_New_5 : LT_disk_New_5 → LM_disk_New_5 → Option LO_disk_New_5) (x1 : Int) (x2 : Int) {α : Type} (K : O_disk_New → Option α) : tree_disk_New L_disk_New_5 x1 x2 K = (tree_disk_New L_disk_New_5 x1 x2 some).bind K := by simp only [tree_disk_New, bind_cond, bind_none', bind_some', bind_bind', bind_sum]
theorem Fe_disk_New (x1 : Int) (x2 : Int) : F_disk_New (x1, (x2, ())) () = tree_disk_New L_disk_New_5 x1 x2 some := rfl

end Go.Proofs.Ytlfedmjjjbhnpaa.S2
