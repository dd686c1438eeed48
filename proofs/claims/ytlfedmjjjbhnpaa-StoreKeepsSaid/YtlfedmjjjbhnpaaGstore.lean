/- Plain forms of the program's functions, by program. -/
import Derived.Test.YtlfedmjjjbhnpaaGslot
import Derived.Test.YtlfedmjjjbhnpaaGwire
set_option maxRecDepth 100000
set_option maxHeartbeats 0
set_option linter.unusedVariables false
set_option linter.unusedSimpArgs false
namespace Go.Proofs.Ytlfedmjjjbhnpaa.S2
open Go
/-! countersign/store.may -/
def args_store_may : SkL := (.cons (.agg (.cons (.leaf (.int .u64)) (.cons (.leaf (.int .u64)) (.cons (.leaf (.int .u64)) (.cons (.leaf (.int .u64)) (.cons (.leaf (.int .u64)) (.cons (.leaf .str) .nil))))))) .nil)
def mem_store_may : MSk := []
def outs_store_may : List OutC := [⟨(.leaf .bool), []⟩]
abbrev A_store_may : Type := ((Int × Int × Int × Int × Int × ByteArray × Unit) × Unit)
abbrev M_store_may : Type := Unit
abbrev O_store_may : Type := Bool × Unit
def tree_store_may {α : Type} (x1 : Int) (x2 : Int) (x3 : Int) (x4 : Int) (x5 : Int) (x6 : ByteArray) (K : O_store_may → Option α) : Option α :=
  cond (x3 == 1)
  (K (true, ()))
  (cond (x3 == 0)
   (cond (x4 == 0)
    (cond (x5 == 0)
     (K (x6.toList == ByteArray.empty.toList, ()))
     (K (false, ())))
    (K (false, ())))
   (K (false, ())))
noncomputable def F_store_may : A_store_may → M_store_may → Option O_store_may := fun a b => tree_store_may a.1.1 a.1.2.1 a.1.2.2.1 a.1.2.2.2.1 a.1.2.2.2.2.1 a.1.2.2.2.2.2.1 some
theorem n_store_may (x1 : Int) (x2 : Int) (x3 : Int) (x4 : Int) (x5 : Int) (x6 : ByteArray) {α : Type} (K : O_store_may → Option α) : tree_store_may x1 x2 x3 x4 x5 x6 K = (tree_store_may x1 x2 x3 x4 x5 x6 some).bind K := by simp only [tree_store_may, bind_cond, bind_none', bind_some', bind_bind', bind_sum]
theorem Fe_store_may (x1 : Int) (x2 : Int) (x3 : Int) (x4 : Int) (x5 : Int) (x6 : ByteArray) : F_store_may ((x1, (x2, (x3, (x4, (x5, (x6, ())))))), ()) () = tree_store_may x1 x2 x3 x4 x5 x6 some := rfl

/-! countersign/store.Text -/
def args_store_Text : SkL := (.cons (.agg (.cons (.leaf (.int .u64)) (.cons (.leaf (.int .u64)) (.cons (.leaf (.int .u64)) (.cons (.leaf (.int .u64)) (.cons (.leaf (.int .u64)) (.cons (.leaf .str) .nil))))))) .nil)
def mem_store_Text : MSk := []
def outs_store_Text : List OutC := [⟨(.leaf .str), []⟩]
abbrev A_store_Text : Type := ((Int × Int × Int × Int × Int × ByteArray × Unit) × Unit)
abbrev M_store_Text : Type := Unit
abbrev O_store_Text : Type := ByteArray × Unit
def tree_store_Text (F_wire_PutUint : A_wire_PutUint → M_wire_PutUint → Option O_wire_PutUint) (F_wire_PutText : A_wire_PutText → M_wire_PutText → Option O_wire_PutText) {α : Type} (x1 : Int) (x2 : Int) (x3 : Int) (x4 : Int) (x5 : Int) (x6 : ByteArray) (K : O_store_Text → Option α) : Option α :=
  (F_wire_PutUint (x1, ()) ()).bind fun r1 =>
  cond (decide (0 + r1.fst.size ≤ 9223372036854775807))
  ((F_wire_PutUint (x2, ()) ()).bind fun r2 =>
   cond (decide ((ByteArray.empty ++ r1.fst).size + r2.fst.size ≤ 9223372036854775807))
   ((F_wire_PutUint (x3, ()) ()).bind fun r3 =>
    cond (decide ((ByteArray.empty ++ r1.fst ++ r2.fst).size + r3.fst.size ≤ 9223372036854775807))
    ((F_wire_PutUint (x4, ()) ()).bind fun r4 =>
     cond (decide ((ByteArray.empty ++ r1.fst ++ r2.fst ++ r3.fst).size + r4.fst.size ≤ 9223372036854775807))
     ((F_wire_PutUint (x5, ()) ()).bind fun r5 =>
      cond (decide ((ByteArray.empty ++ r1.fst ++ r2.fst ++ r3.fst ++ r4.fst).size + r5.fst.size ≤ 9223372036854775807))
      ((F_wire_PutText (x6, ()) ()).bind fun r6 =>
       cond (decide   ((ByteArray.empty ++ r1.fst ++ r2.fst ++ r3.fst ++ r4.fst ++ r5.fst).size + r6.fst.size ≤ 9223372036854775807))
       (K (ByteArray.empty ++ r1.fst ++ r2.fst ++ r3.fst ++ r4.fst ++ r5.fst ++ r6.fst, ()))
       (none))
      (none))
     (none))
    (none))
   (none))
  (none)
noncomputable def F_store_Text : A_store_Text → M_store_Text → Option O_store_Text := fun a b => tree_store_Text F_wire_PutUint F_wire_PutText a.1.1 a.1.2.1 a.1.2.2.1 a.1.2.2.2.1 a.1.2.2.2.2.1 a.1.2.2.2.2.2.1 some
theorem n_store_Text (F_wire_PutUint : A_wire_PutUint → M_wire_PutUint → Option O_wire_PutUint) (F_wire_PutText : A_wire_PutText → M_wire_PutText → Option O_wire_PutText) (x1 : Int) (x2 : Int) (x3 : Int) (x4 : Int) (x5 : Int) (x6 : ByteArray) {α : Type} (K : O_store_Text → Option α) : tree_store_Text F_wire_PutUint F_wire_PutText x1 x2 x3 x4 x5 x6 K = (tree_store_Text F_wire_PutUint F_wire_PutText x1 x2 x3 x4 x5 x6 some).bind K := by simp only [tree_store_Text, bind_cond, bind_none', bind_some', bind_bind', bind_sum]
theorem Fe_store_Text (x1 : Int) (x2 : Int) (x3 : Int) (x4 : Int) (x5 : Int) (x6 : ByteArray) : F_store_Text ((x1, (x2, (x3, (x4, (x5, (x6, ())))))), ()) () = tree_store_Text F_wire_PutUint F_wire_PutText x1 x2 x3 x4 x5 x6 some := rfl

/-! countersign/store.Parse -/
def args_store_Parse : SkL := (.cons (.leaf .str) .nil)
def mem_store_Parse : MSk := []
def outs_store_Parse : List OutC := [⟨(.tup (.cons (.agg (.cons (.leaf (.int .u64)) (.cons (.leaf (.int .u64)) (.cons (.leaf (.int .u64)) (.cons (.leaf (.int .u64)) (.cons (.leaf (.int .u64)) (.cons (.leaf .str) .nil))))))) (.cons (.leaf .bool) .nil))), []⟩]
abbrev A_store_Parse : Type := (ByteArray × Unit)
abbrev M_store_Parse : Type := Unit
abbrev O_store_Parse : Type := ((Int × Int × Int × Int × Int × ByteArray × Unit) × Bool × Unit) × Unit
def tree_store_Parse (F_wire_TakeUint : A_wire_TakeUint → M_wire_TakeUint → Option O_wire_TakeUint) (F_wire_TakeText : A_wire_TakeText → M_wire_TakeText → Option O_wire_TakeText) (F_store_may : A_store_may → M_store_may → Option O_store_may) {α : Type} (x1 : ByteArray) (K : O_store_Parse → Option α) : Option α :=
  (F_wire_TakeUint (x1, ()) ()).bind fun r1 =>
  cond (!r1.fst.snd.snd.fst)
  (K (((0, (0, (0, (0, (0, (ByteArray.empty, ())))))), (false, ())), ()))
  ((F_wire_TakeUint (r1.fst.snd.fst, ()) ()).bind fun r2 =>
   cond (!r2.fst.snd.snd.fst)
   (K (((0, (0, (0, (0, (0, (ByteArray.empty, ())))))), (false, ())), ()))
   ((F_wire_TakeUint (r2.fst.snd.fst, ()) ()).bind fun r3 =>
    cond (!r3.fst.snd.snd.fst)
    (K (((0, (0, (0, (0, (0, (ByteArray.empty, ())))))), (false, ())), ()))
    ((F_wire_TakeUint (r3.fst.snd.fst, ()) ()).bind fun r4 =>
     cond (!r4.fst.snd.snd.fst)
     (K (((0, (0, (0, (0, (0, (ByteArray.empty, ())))))), (false, ())), ()))
     ((F_wire_TakeUint (r4.fst.snd.fst, ()) ()).bind fun r5 =>
      cond (!r5.fst.snd.snd.fst)
      (K (((0, (0, (0, (0, (0, (ByteArray.empty, ())))))), (false, ())), ()))
      ((F_wire_TakeText (r5.fst.snd.fst, (↑r5.fst.snd.fst.size : Int), ()) ()).bind fun r6 =>
       cond (!r6.fst.snd.snd.fst)
       (K (((0, (0, (0, (0, (0, (ByteArray.empty, ())))))), (false, ())), ()))
       (cond (!r6.fst.snd.fst.toList == ByteArray.empty.toList)
        (K (((0, (0, (0, (0, (0, (ByteArray.empty, ())))))), (false, ())), ()))
        ((F_store_may ((r1.fst.fst, r2.fst.fst, r3.fst.fst, r4.fst.fst, r5.fst.fst, r6.fst.fst, ()), ()) ()).bind fun r7 =>
         cond (!r7.fst)
         (K (((0, (0, (0, (0, (0, (ByteArray.empty, ())))))), (false, ())), ()))
         (K (((r1.fst.fst, (r2.fst.fst, (r3.fst.fst, (r4.fst.fst, (r5.fst.fst, (r6.fst.fst, ())))))), (true, ())), ())))))))))
noncomputable def F_store_Parse : A_store_Parse → M_store_Parse → Option O_store_Parse := fun a b => tree_store_Parse F_wire_TakeUint F_wire_TakeText F_store_may a.1 some
theorem n_store_Parse (F_wire_TakeUint : A_wire_TakeUint → M_wire_TakeUint → Option O_wire_TakeUint) (F_wire_TakeText : A_wire_TakeText → M_wire_TakeText → Option O_wire_TakeText) (F_store_may : A_store_may → M_store_may → Option O_store_may) (x1 : ByteArray) {α : Type} (K : O_store_Parse → Option α) : tree_store_Parse F_wire_TakeUint F_wire_TakeText F_store_may x1 K = (tree_store_Parse F_wire_TakeUint F_wire_TakeText F_store_may x1 some).bind K := by simp only [tree_store_Parse, bind_cond, bind_none', bind_some', bind_bind', bind_sum]
theorem Fe_store_Parse (x1 : ByteArray) : F_store_Parse (x1, ()) () = tree_store_Parse F_wire_TakeUint F_wire_TakeText F_store_may x1 some := rfl

/-! countersign/store.Open -/
def args_store_Open : SkL := (.cons (.const (.ptr 0 0 0)) .nil)
def mem_store_Open : MSk := [(0, .cells (.cons (.leaf (.int .i64)) (.cons (.const (.slw 1)) (.cons (.const (.slw 2)) .nil)))), (1, .row 9 (.cons .str .nil)), (2, .row 127 (.cons (.int .i64) (.cons .str .nil)))]
def outs_store_Open : List OutC := [⟨(.tup (.cons (.const .nilp) (.cons (.const (.bool Bool.false)) .nil))), [(0, .cells (.cons (.leaf (.int .i64)) (.cons (.const (.slw 1)) (.cons (.const (.slw 2)) .nil)))), (1, .row 9 (.cons .str .nil)), (2, .row 127 (.cons (.int .i64) (.cons .str .nil)))]⟩, ⟨(.tup (.cons (.const (.ptr 3 0 0)) (.cons (.const (.bool Bool.true)) .nil))), [(0, .cells (.cons (.leaf (.int .i64)) (.cons (.const (.slw 1)) (.cons (.const (.slw 2)) .nil)))), (1, .row 9 (.cons .str .nil)), (2, .row 127 (.cons (.int .i64) (.cons .str .nil))), (3, .cells (.cons (.const (.ptr 0 0 0)) .nil))]⟩]
abbrev A_store_Open : Type := Unit
abbrev M_store_Open : Type := ((Int × Unit) × List ByteArray × (List (Int × ByteArray)) × Unit)
abbrev O_store_Open : Type := (Unit × ((Int × Unit) × List ByteArray × (List (Int × ByteArray)) × Unit)) ⊕ (Unit × ((Int × Unit) × List ByteArray × (List (Int × ByteArray)) × Unit × Unit))
def tree_store_Open (F_disk_Disk_Sectors : A_disk_Disk_Sectors → M_disk_Disk_Sectors → Option O_disk_Disk_Sectors) {α : Type} (x1 : Int) (x2 : List ByteArray) (x3 : List (Int × ByteArray)) (K : O_store_Open → Option α) : Option α :=
  (F_disk_Disk_Sectors () ((x1, ()), x2, x3, ())).bind fun r1 =>
  cond (decide (r1.fst < 2))
  (K (.inl ((), ((x1, ()), (x2, (x3, ()))))))
  (K (.inr ((), ((x1, ()), (x2, (x3, ((), ())))))))
noncomputable def F_store_Open : A_store_Open → M_store_Open → Option O_store_Open := fun a b => tree_store_Open F_disk_Disk_Sectors b.1.1 b.2.1 b.2.2.1 some
theorem n_store_Open (F_disk_Disk_Sectors : A_disk_Disk_Sectors → M_disk_Disk_Sectors → Option O_disk_Disk_Sectors) (x1 : Int) (x2 : List ByteArray) (x3 : List (Int × ByteArray)) {α : Type} (K : O_store_Open → Option α) : tree_store_Open F_disk_Disk_Sectors x1 x2 x3 K = (tree_store_Open F_disk_Disk_Sectors x1 x2 x3 some).bind K := by simp only [tree_store_Open, bind_cond, bind_none', bind_some', bind_bind', bind_sum]
theorem Fe_store_Open (x1 : Int) (x2 : List ByteArray) (x3 : List (Int × ByteArray)) : F_store_Open () ((x1, ()), (x2, (x3, ()))) = tree_store_Open F_disk_Disk_Sectors x1 x2 x3 some := rfl

/-! (*countersign/store.Store).Disk -/
def args_store_Store_Disk : SkL := (.cons (.const (.ptr 0 0 0)) .nil)
def mem_store_Store_Disk : MSk := [(0, .cells (.cons (.const (.ptr 1 0 0)) .nil)), (1, .cells (.cons (.leaf (.int .i64)) (.cons (.const (.slw 2)) (.cons (.const (.slw 3)) .nil)))), (2, .row 9 (.cons .str .nil)), (3, .row 127 (.cons (.int .i64) (.cons .str .nil)))]
def outs_store_Store_Disk : List OutC := [⟨(.const (.ptr 1 0 0)), []⟩]
abbrev A_store_Store_Disk : Type := Unit
abbrev M_store_Store_Disk : Type := (Unit × (Int × Unit) × List ByteArray × (List (Int × ByteArray)) × Unit)
abbrev O_store_Store_Disk : Type := Unit × Unit
def routs_store_Store_Disk : List OutC := [⟨(.const (.ptr 1 0 0)), [(0, .cells (.cons (.const (.ptr 1 0 0)) .nil)), (1, .cells (.cons (.leaf (.int .i64)) (.cons (.const (.slw 2)) (.cons (.const (.slw 3)) .nil)))), (2, .row 9 (.cons .str .nil)), (3, .row 127 (.cons (.int .i64) (.cons .str .nil)))]⟩]
abbrev RO_store_Store_Disk : Type := Unit × (Unit × (Int × Unit) × List ByteArray × (List (Int × ByteArray)) × Unit)
def tree_store_Store_Disk {α : Type} (x1 : Int) (x2 : List ByteArray) (x3 : List (Int × ByteArray)) (K : RO_store_Store_Disk → Option α) : Option α :=
  K ((), ((), ((x1, ()), (x2, (x3, ())))))
noncomputable def R_store_Store_Disk : A_store_Store_Disk → M_store_Store_Disk → Option RO_store_Store_Disk := fun a b => tree_store_Store_Disk b.2.1.1 b.2.2.1 b.2.2.2.1 some
theorem reads_store_Store_Disk (a : A_store_Store_Disk) (b : M_store_Store_Disk) : Leaf (fun r : RO_store_Store_Disk => r.2 = b) (R_store_Store_Disk a b) := by
  show Leaf _ (tree_store_Store_Disk b.2.1.1 b.2.2.1 b.2.2.2.1 some)
  unfold tree_store_Store_Disk
  repeat (first | (with_reducible refine leaf_bind fun _ => ?_) | (with_reducible apply leaf_cond) | (with_reducible refine leaf_sum (fun _ => ?_) (fun _ => ?_)) | (with_reducible exact leaf_none) | exact leaf_some rfl)
noncomputable def F_store_Store_Disk : A_store_Store_Disk → M_store_Store_Disk → Option O_store_Store_Disk := fun a b => (R_store_Store_Disk a b).map fun r => (r.1, ())
theorem n_store_Store_Disk (x1 : Int) (x2 : List ByteArray) (x3 : List (Int × ByteArray)) {α : Type} (K : RO_store_Store_Disk → Option α) : tree_store_Store_Disk x1 x2 x3 K = (tree_store_Store_Disk x1 x2 x3 some).bind K := by simp only [tree_store_Store_Disk, bind_cond, bind_none', bind_some', bind_bind', bind_sum]
theorem Fe_store_Store_Disk (x1 : Int) (x2 : List ByteArray) (x3 : List (Int × ByteArray)) : F_store_Store_Disk () ((), ((x1, ()), (x2, (x3, ())))) = (tree_store_Store_Disk x1 x2 x3 some).map fun r => (r.1, ()) := rfl

/-! (*countersign/store.Store).Trust -/
def args_store_Store_Trust : SkL := (.cons (.const (.ptr 0 0 0)) .nil)
def mem_store_Store_Trust : MSk := [(0, .cells (.cons (.const (.ptr 1 0 0)) .nil)), (1, .cells (.cons (.leaf (.int .i64)) (.cons (.const (.slw 2)) (.cons (.const (.slw 3)) .nil)))), (2, .row 9 (.cons .str .nil)), (3, .row 127 (.cons (.int .i64) (.cons .str .nil)))]
def outs_store_Store_Trust : List OutC := [⟨(.tup (.cons (.agg (.cons (.leaf (.int .u64)) (.cons (.leaf (.int .u64)) (.cons (.leaf (.int .u64)) (.cons (.leaf (.int .u64)) (.cons (.leaf (.int .u64)) (.cons (.leaf .str) .nil))))))) (.cons (.leaf .bool) .nil))), []⟩]
abbrev A_store_Store_Trust : Type := Unit
abbrev M_store_Store_Trust : Type := (Unit × (Int × Unit) × List ByteArray × (List (Int × ByteArray)) × Unit)
abbrev O_store_Store_Trust : Type := ((Int × Int × Int × Int × Int × ByteArray × Unit) × Bool × Unit) × Unit
def routs_store_Store_Trust : List OutC := [⟨(.tup (.cons (.agg (.cons (.leaf (.int .u64)) (.cons (.leaf (.int .u64)) (.cons (.leaf (.int .u64)) (.cons (.leaf (.int .u64)) (.cons (.leaf (.int .u64)) (.cons (.leaf .str) .nil))))))) (.cons (.leaf .bool) .nil))), [(0, .cells (.cons (.const (.ptr 1 0 0)) .nil)), (1, .cells (.cons (.leaf (.int .i64)) (.cons (.const (.slw 2)) (.cons (.const (.slw 3)) .nil)))), (2, .row 9 (.cons .str .nil)), (3, .row 127 (.cons (.int .i64) (.cons .str .nil)))]⟩]
abbrev RO_store_Store_Trust : Type := ((Int × Int × Int × Int × Int × ByteArray × Unit) × Bool × Unit) × (Unit × (Int × Unit) × List ByteArray × (List (Int × ByteArray)) × Unit)
def tree_store_Store_Trust (F_slot_Load : A_slot_Load → M_slot_Load → Option O_slot_Load) (F_store_Parse : A_store_Parse → M_store_Parse → Option O_store_Parse) {α : Type} (x1 : Int) (x2 : List ByteArray) (x3 : List (Int × ByteArray)) (K : RO_store_Store_Trust → Option α) : Option α :=
  (F_slot_Load (0, 1, ()) ((x1, ()), x2, x3, ())).bind fun r1 =>
  cond (r1.fst.fst == 0)
  (K (((0, (0, (0, (0, (0, (ByteArray.empty, ())))))), (false, ())), ((), ((x1, ()), (x2, (x3, ()))))))
  ((F_store_Parse (r1.fst.snd.fst, ()) ()).bind fun r2 =>
   K (((r2.fst.fst.fst, (r2.fst.fst.snd.fst, (r2.fst.fst.snd.snd.fst, (r2.fst.fst.snd.snd.snd.fst, (r2.fst.fst.snd.snd.snd.snd.fst, (r2.fst.fst.snd.snd.snd.snd.snd.fst, ())))))), (r2.fst.snd.fst, ())), ((), ((x1, ()), (x2, (x3, ()))))))
noncomputable def R_store_Store_Trust : A_store_Store_Trust → M_store_Store_Trust → Option RO_store_Store_Trust := fun a b => tree_store_Store_Trust F_slot_Load F_store_Parse b.2.1.1 b.2.2.1 b.2.2.2.1 some
theorem reads_store_Store_Trust (a : A_store_Store_Trust) (b : M_store_Store_Trust) : Leaf (fun r : RO_store_Store_Trust => r.2 = b) (R_store_Store_Trust a b) := by
  show Leaf _ (tree_store_Store_Trust F_slot_Load F_store_Parse b.2.1.1 b.2.2.1 b.2.2.2.1 some)
  unfold tree_store_Store_Trust
  repeat (first | (with_reducible refine leaf_bind fun _ => ?_) | (with_reducible apply leaf_cond) | (with_reducible refine leaf_sum (fun _ => ?_) (fun _ => ?_)) | (with_reducible exact leaf_none) | exact leaf_some rfl)
noncomputable def F_store_Store_Trust : A_store_Store_Trust → M_store_Store_Trust → Option O_store_Store_Trust := fun a b => (R_store_Store_Trust a b).map fun r => (r.1, ())
theorem n_store_Store_Trust (F_slot_Load : A_slot_Load → M_slot_Load → Option O_slot_Load) (F_store_Parse : A_store_Parse → M_store_Parse → Option O_store_Parse) (x1 : Int) (x2 : List ByteArray) (x3 : List (Int × ByteArray)) {α : Type} (K : RO_store_Store_Trust → Option α) : tree_store_Store_Trust F_slot_Load F_store_Parse x1 x2 x3 K = (tree_store_Store_Trust F_slot_Load F_store_Parse x1 x2 x3 some).bind K := by simp only [tree_store_Store_Trust, bind_cond, bind_none', bind_some', bind_bind', bind_sum]
theorem Fe_store_Store_Trust (x1 : Int) (x2 : List ByteArray) (x3 : List (Int × ByteArray)) : F_store_Store_Trust () ((), ((x1, ()), (x2, (x3, ())))) = (tree_store_Store_Trust F_slot_Load F_store_Parse x1 x2 x3 some).map fun r => (r.1, ()) := rfl

/-! (*countersign/store.Store).save -/
def args_store_Store_save : SkL := (.cons (.const (.ptr 0 0 0)) (.cons (.agg (.cons (.leaf (.int .u64)) (.cons (.leaf (.int .u64)) (.cons (.leaf (.int .u64)) (.cons (.leaf (.int .u64)) (.cons (.leaf (.int .u64)) (.cons (.leaf .str) .nil))))))) .nil))
def mem_store_Store_save : MSk := [(0, .cells (.cons (.const (.ptr 1 0 0)) .nil)), (1, .cells (.cons (.leaf (.int .i64)) (.cons (.const (.slw 2)) (.cons (.const (.slw 3)) .nil)))), (2, .row 9 (.cons .str .nil)), (3, .row 127 (.cons (.int .i64) (.cons .str .nil)))]
def outs_store_Store_save : List OutC := [⟨(.leaf .bool), [(0, .cells (.cons (.const (.ptr 1 0 0)) .nil)), (1, .cells (.cons (.leaf (.int .i64)) (.cons (.const (.slw 2)) (.cons (.const (.slw 4)) .nil)))), (2, .row 9 (.cons .str .nil)), (3, .gone), (4, .row 127 (.cons (.int .i64) (.cons .str .nil)))]⟩]
abbrev A_store_Store_save : Type := ((Int × Int × Int × Int × Int × ByteArray × Unit) × Unit)
abbrev M_store_Store_save : Type := (Unit × (Int × Unit) × List ByteArray × (List (Int × ByteArray)) × Unit)
abbrev O_store_Store_save : Type := Bool × (Unit × (Int × Unit) × List ByteArray × Unit × (List (Int × ByteArray)) × Unit)
def tree_store_Store_save (F_store_Text : A_store_Text → M_store_Text → Option O_store_Text) (F_slot_Save : A_slot_Save → M_slot_Save → Option O_slot_Save) {α : Type} (x1 : Int) (x2 : Int) (x3 : Int) (x4 : Int) (x5 : Int) (x6 : ByteArray) (x7 : Int) (x8 : List ByteArray) (x9 : List (Int × ByteArray)) (K : O_store_Store_save → Option α) : Option α :=
  (F_store_Text ((x1, x2, x3, x4, x5, x6, ()), ()) ()).bind fun r1 =>
  (F_slot_Save (0, 1, r1.fst, ()) ((x7, ()), x8, x9, ())).bind fun r2 =>
  K (r2.fst, ((), ((r2.snd.fst.fst, ()), (r2.snd.snd.fst, ((), (r2.snd.snd.snd.snd.fst, ()))))))
noncomputable def F_store_Store_save : A_store_Store_save → M_store_Store_save → Option O_store_Store_save := fun a b => tree_store_Store_save F_store_Text F_slot_Save a.1.1 a.1.2.1 a.1.2.2.1 a.1.2.2.2.1 a.1.2.2.2.2.1 a.1.2.2.2.2.2.1 b.2.1.1 b.2.2.1 b.2.2.2.1 some
theorem n_store_Store_save (F_store_Text : A_store_Text → M_store_Text → Option O_store_Text) (F_slot_Save : A_slot_Save → M_slot_Save → Option O_slot_Save) (x1 : Int) (x2 : Int) (x3 : Int) (x4 : Int) (x5 : Int) (x6 : ByteArray) (x7 : Int) (x8 : List ByteArray) (x9 : List (Int × ByteArray)) {α : Type} (K : O_store_Store_save → Option α) : tree_store_Store_save F_store_Text F_slot_Save x1 x2 x3 x4 x5 x6 x7 x8 x9 K = (tree_store_Store_save F_store_Text F_slot_Save x1 x2 x3 x4 x5 x6 x7 x8 x9 some).bind K := by simp only [tree_store_Store_save, bind_cond, bind_none', bind_some', bind_bind', bind_sum]
theorem Fe_store_Store_save (x1 : Int) (x2 : Int) (x3 : Int) (x4 : Int) (x5 : Int) (x6 : ByteArray) (x7 : Int) (x8 : List ByteArray) (x9 : List (Int × ByteArray)) : F_store_Store_save ((x1, (x2, (x3, (x4, (x5, (x6, ())))))), ()) ((), ((x7, ()), (x8, (x9, ())))) = tree_store_Store_save F_store_Text F_slot_Save x1 x2 x3 x4 x5 x6 x7 x8 x9 some := rfl

/-! (*countersign/store.Store).Reset -/
def args_store_Store_Reset : SkL := (.cons (.const (.ptr 0 0 0)) (.cons (.leaf (.int .u64)) .nil))
def mem_store_Store_Reset : MSk := [(0, .cells (.cons (.const (.ptr 1 0 0)) .nil)), (1, .cells (.cons (.leaf (.int .i64)) (.cons (.const (.slw 2)) (.cons (.const (.slw 3)) .nil)))), (2, .row 9 (.cons .str .nil)), (3, .row 127 (.cons (.int .i64) (.cons .str .nil)))]
def outs_store_Store_Reset : List OutC := [⟨(.leaf .bool), [(0, .cells (.cons (.const (.ptr 1 0 0)) .nil)), (1, .cells (.cons (.leaf (.int .i64)) (.cons (.const (.slw 2)) (.cons (.const (.slw 4)) .nil)))), (2, .row 9 (.cons .str .nil)), (3, .gone), (4, .row 127 (.cons (.int .i64) (.cons .str .nil)))]⟩]
abbrev A_store_Store_Reset : Type := (Int × Unit)
abbrev M_store_Store_Reset : Type := (Unit × (Int × Unit) × List ByteArray × (List (Int × ByteArray)) × Unit)
abbrev O_store_Store_Reset : Type := Bool × (Unit × (Int × Unit) × List ByteArray × Unit × (List (Int × ByteArray)) × Unit)
def tree_store_Store_Reset (F_store_Store_save : A_store_Store_save → M_store_Store_save → Option O_store_Store_save) {α : Type} (x1 : Int) (x2 : Int) (x3 : List ByteArray) (x4 : List (Int × ByteArray)) (K : O_store_Store_Reset → Option α) : Option α :=
  (F_store_Store_save ((x1, 0, 0, 0, 0, ByteArray.empty, ()), ()) ((), (x2, ()), x3, x4, ())).bind fun r1 =>
  K (r1.fst, ((), ((r1.snd.snd.fst.fst, ()), (r1.snd.snd.snd.fst, ((), (r1.snd.snd.snd.snd.snd.fst, ()))))))
noncomputable def F_store_Store_Reset : A_store_Store_Reset → M_store_Store_Reset → Option O_store_Store_Reset := fun a b => tree_store_Store_Reset F_store_Store_save a.1 b.2.1.1 b.2.2.1 b.2.2.2.1 some
theorem n_store_Store_Reset (F_store_Store_save : A_store_Store_save → M_store_Store_save → Option O_store_Store_save) (x1 : Int) (x2 : Int) (x3 : List ByteArray) (x4 : List (Int × ByteArray)) {α : Type} (K : O_store_Store_Reset → Option α) : tree_store_Store_Reset F_store_Store_save x1 x2 x3 x4 K = (tree_store_Store_Reset F_store_Store_save x1 x2 x3 x4 some).bind K := by simp only [tree_store_Store_Reset, bind_cond, bind_none', bind_some', bind_bind', bind_sum]
theorem Fe_store_Store_Reset (x1 : Int) (x2 : Int) (x3 : List ByteArray) (x4 : List (Int × ByteArray)) : F_store_Store_Reset (x1, ()) ((), ((x2, ()), (x3, (x4, ())))) = tree_store_Store_Reset F_store_Store_save x1 x2 x3 x4 some := rfl

/-! (*countersign/store.Store).Intend -/
def args_store_Store_Intend : SkL := (.cons (.const (.ptr 0 0 0)) (.cons (.leaf (.int .u64)) (.cons (.leaf .str) (.cons (.leaf (.int .u64)) .nil))))
def mem_store_Store_Intend : MSk := [(0, .cells (.cons (.const (.ptr 1 0 0)) .nil)), (1, .cells (.cons (.leaf (.int .i64)) (.cons (.const (.slw 2)) (.cons (.const (.slw 3)) .nil)))), (2, .row 9 (.cons .str .nil)), (3, .row 127 (.cons (.int .i64) (.cons .str .nil)))]
def outs_store_Store_Intend : List OutC := [⟨(.leaf .bool), [(0, .cells (.cons (.const (.ptr 1 0 0)) .nil)), (1, .cells (.cons (.leaf (.int .i64)) (.cons (.const (.slw 2)) (.cons (.const (.slw 4)) .nil)))), (2, .row 9 (.cons .str .nil)), (3, .gone), (4, .row 127 (.cons (.int .i64) (.cons .str .nil)))]⟩]
abbrev A_store_Store_Intend : Type := (Int × ByteArray × Int × Unit)
abbrev M_store_Store_Intend : Type := (Unit × (Int × Unit) × List ByteArray × (List (Int × ByteArray)) × Unit)
abbrev O_store_Store_Intend : Type := Bool × (Unit × (Int × Unit) × List ByteArray × Unit × (List (Int × ByteArray)) × Unit)
def tree_store_Store_Intend (F_store_Store_Trust : A_store_Store_Trust → M_store_Store_Trust → Option O_store_Store_Trust) (F_store_Store_save : A_store_Store_save → M_store_Store_save → Option O_store_Store_save) {α : Type} (x1 : Int) (x2 : ByteArray) (x3 : Int) (x4 : Int) (x5 : List ByteArray) (x6 : List (Int × ByteArray)) (K : O_store_Store_Intend → Option α) : Option α :=
  (F_store_Store_Trust () ((), (x4, ()), x5, x6, ())).bind fun r1 =>
  cond (!r1.fst.snd.fst)
  (K (false, ((), ((x4, ()), (x5, ((), (x6, ())))))))
  (cond (r1.fst.fst.snd.snd.fst == 1)
   (K (false, ((), ((x4, ()), (x5, ((), (x6, ())))))))
   ((F_store_Store_save ((r1.fst.fst.fst, r1.fst.fst.snd.fst, 1, x1, x3, x2, ()), ())   ((), (x4, ()), x5, x6, ())).bind fun r2 =>
    K (r2.fst, ((), ((r2.snd.snd.fst.fst, ()), (r2.snd.snd.snd.fst, ((), (r2.snd.snd.snd.snd.snd.fst, ()))))))))
noncomputable def F_store_Store_Intend : A_store_Store_Intend → M_store_Store_Intend → Option O_store_Store_Intend := fun a b => tree_store_Store_Intend F_store_Store_Trust F_store_Store_save a.1 a.2.1 a.2.2.1 b.2.1.1 b.2.2.1 b.2.2.2.1 some
theorem n_store_Store_Intend (F_store_Store_Trust : A_store_Store_Trust → M_store_Store_Trust → Option O_store_Store_Trust) (F_store_Store_save : A_store_Store_save → M_store_Store_save → Option O_store_Store_save) (x1 : Int) (x2 : ByteArray) (x3 : Int) (x4 : Int) (x5 : List ByteArray) (x6 : List (Int × ByteArray)) {α : Type} (K : O_store_Store_Intend → Option α) : tree_store_Store_Intend F_store_Store_Trust F_store_Store_save x1 x2 x3 x4 x5 x6 K = (tree_store_Store_Intend F_store_Store_Trust F_store_Store_save x1 x2 x3 x4 x5 x6 some).bind K := by simp only [tree_store_Store_Intend, bind_cond, bind_none', bind_some', bind_bind', bind_sum]
theorem Fe_store_Store_Intend (x1 : Int) (x2 : ByteArray) (x3 : Int) (x4 : Int) (x5 : List ByteArray) (x6 : List (Int × ByteArray)) : F_store_Store_Intend (x1, (x2, (x3, ()))) ((), ((x4, ()), (x5, (x6, ())))) = tree_store_Store_Intend F_store_Store_Trust F_store_Store_save x1 x2 x3 x4 x5 x6 some := rfl

/-! (*countersign/store.Store).Settle -/
def args_store_Store_Settle : SkL := (.cons (.const (.ptr 0 0 0)) (.cons (.leaf .bool) .nil))
def mem_store_Store_Settle : MSk := [(0, .cells (.cons (.const (.ptr 1 0 0)) .nil)), (1, .cells (.cons (.leaf (.int .i64)) (.cons (.const (.slw 2)) (.cons (.const (.slw 3)) .nil)))), (2, .row 9 (.cons .str .nil)), (3, .row 127 (.cons (.int .i64) (.cons .str .nil)))]
def outs_store_Store_Settle : List OutC := [⟨(.leaf .bool), [(0, .cells (.cons (.const (.ptr 1 0 0)) .nil)), (1, .cells (.cons (.leaf (.int .i64)) (.cons (.const (.slw 2)) (.cons (.const (.slw 4)) .nil)))), (2, .row 9 (.cons .str .nil)), (3, .gone), (4, .row 127 (.cons (.int .i64) (.cons .str .nil)))]⟩]
abbrev A_store_Store_Settle : Type := (Bool × Unit)
abbrev M_store_Store_Settle : Type := (Unit × (Int × Unit) × List ByteArray × (List (Int × ByteArray)) × Unit)
abbrev O_store_Store_Settle : Type := Bool × (Unit × (Int × Unit) × List ByteArray × Unit × (List (Int × ByteArray)) × Unit)
def tree_store_Store_Settle (F_store_Store_Trust : A_store_Store_Trust → M_store_Store_Trust → Option O_store_Store_Trust) (F_store_Store_save : A_store_Store_save → M_store_Store_save → Option O_store_Store_save) {α : Type} (x1 : Bool) (x2 : Int) (x3 : List ByteArray) (x4 : List (Int × ByteArray)) (K : O_store_Store_Settle → Option α) : Option α :=
  (F_store_Store_Trust () ((), (x2, ()), x3, x4, ())).bind fun r1 =>
  cond (!r1.fst.snd.fst)
  (K (false, ((), ((x2, ()), (x3, ((), (x4, ())))))))
  (cond (r1.fst.fst.snd.snd.fst == 0)
   (K (false, ((), ((x2, ()), (x3, ((), (x4, ())))))))
   (cond (x1)
    (cond (r1.fst.fst.snd.fst == 18446744073709551615)
     (K (false, ((), ((x2, ()), (x3, ((), (x4, ())))))))
     (cond (x1)
      ((F_store_Store_save   ((r1.fst.fst.snd.snd.snd.snd.fst, IntKind.u64.wrap (r1.fst.fst.snd.fst + 1), 0, 0, 0, ByteArray.empty, ()), ())   ((), (x2, ()), x3, x4, ())).bind fun r2 =>
       K (r2.fst, ((), ((r2.snd.snd.fst.fst, ()), (r2.snd.snd.snd.fst, ((), (r2.snd.snd.snd.snd.snd.fst, ())))))))
      ((F_store_Store_save ((r1.fst.fst.fst, r1.fst.fst.snd.fst, 0, 0, 0, ByteArray.empty, ()), ())   ((), (x2, ()), x3, x4, ())).bind fun r3 =>
       K (r3.fst, ((), ((r3.snd.snd.fst.fst, ()), (r3.snd.snd.snd.fst, ((), (r3.snd.snd.snd.snd.snd.fst, ())))))))))
    (cond (x1)
     ((F_store_Store_save   ((r1.fst.fst.snd.snd.snd.snd.fst, IntKind.u64.wrap (r1.fst.fst.snd.fst + 1), 0, 0, 0, ByteArray.empty, ()), ())   ((), (x2, ()), x3, x4, ())).bind fun r4 =>
      K (r4.fst, ((), ((r4.snd.snd.fst.fst, ()), (r4.snd.snd.snd.fst, ((), (r4.snd.snd.snd.snd.snd.fst, ())))))))
     ((F_store_Store_save ((r1.fst.fst.fst, r1.fst.fst.snd.fst, 0, 0, 0, ByteArray.empty, ()), ())   ((), (x2, ()), x3, x4, ())).bind fun r5 =>
      K (r5.fst, ((), ((r5.snd.snd.fst.fst, ()), (r5.snd.snd.snd.fst, ((), (r5.snd.snd.snd.snd.snd.fst, ()))))))))))
noncomputable def F_store_Store_Settle : A_store_Store_Settle → M_store_Store_Settle → Option O_store_Store_Settle := fun a b => tree_store_Store_Settle F_store_Store_Trust F_store_Store_save a.1 b.2.1.1 b.2.2.1 b.2.2.2.1 some
theorem n_store_Store_Settle (F_store_Store_Trust : A_store_Store_Trust → M_store_Store_Trust → Option O_store_Store_Trust) (F_store_Store_save : A_store_Store_save → M_store_Store_save → Option O_store_Store_save) (x1 : Bool) (x2 : Int) (x3 : List ByteArray) (x4 : List (Int × ByteArray)) {α : Type} (K : O_store_Store_Settle → Option α) : tree_store_Store_Settle F_store_Store_Trust F_store_Store_save x1 x2 x3 x4 K = (tree_store_Store_Settle F_store_Store_Trust F_store_Store_save x1 x2 x3 x4 some).bind K := by simp only [tree_store_Store_Settle, bind_cond, bind_none', bind_some', bind_bind', bind_sum]
theorem Fe_store_Store_Settle (x1 : Bool) (x2 : Int) (x3 : List ByteArray) (x4 : List (Int × ByteArray)) : F_store_Store_Settle (x1, ()) ((), ((x2, ()), (x3, (x4, ())))) = tree_store_Store_Settle F_store_Store_Trust F_store_Store_save x1 x2 x3 x4 some := rfl

end Go.Proofs.Ytlfedmjjjbhnpaa.S2
