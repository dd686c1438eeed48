/- Plain forms of the program's functions, by program. -/
import Derived.Test.YtlfedmjjjbhnpaaGstore
set_option maxRecDepth 100000
set_option maxHeartbeats 0
set_option linter.unusedVariables false
set_option linter.unusedSimpArgs false
namespace Go.Proofs.Ytlfedmjjjbhnpaa.S2
open Go
/-! countersign/countersignlaw22.made -/
def args_law22_made : SkL := (.cons (.leaf (.int .i64)) (.cons (.leaf (.int .i64)) .nil))
def mem_law22_made : MSk := []
def outs_law22_made : List OutC := [⟨(.tup (.cons (.const (.ptr 0 0 0)) (.cons (.const (.ptr 1 0 0)) (.cons (.const (.bool Bool.true)) .nil)))), [(0, .cells (.cons (.const (.ptr 1 0 0)) .nil)), (1, .cells (.cons (.leaf (.int .i64)) (.cons (.const (.slw 2)) (.cons (.const (.slw 3)) .nil)))), (2, .row 9 (.cons .str .nil)), (3, .row 127 (.cons (.int .i64) (.cons .str .nil)))]⟩, ⟨(.tup (.cons (.const .nilp) (.cons (.const (.ptr 0 0 0)) (.cons (.const (.bool Bool.false)) .nil)))), [(0, .cells (.cons (.leaf (.int .i64)) (.cons (.const (.slw 1)) (.cons (.const (.slw 2)) .nil)))), (1, .row 9 (.cons .str .nil)), (2, .row 127 (.cons (.int .i64) (.cons .str .nil)))]⟩, ⟨(.tup (.cons (.const .nilp) (.cons (.const .nilp) (.cons (.const (.bool Bool.false)) .nil)))), []⟩]
abbrev A_law22_made : Type := (Int × Int × Unit)
abbrev M_law22_made : Type := Unit
abbrev O_law22_made : Type := (Unit × (Unit × (Int × Unit) × List ByteArray × (List (Int × ByteArray)) × Unit)) ⊕ ((Unit × ((Int × Unit) × List ByteArray × (List (Int × ByteArray)) × Unit)) ⊕ (Unit × Unit))
def tree_law22_made (F_disk_New : A_disk_New → M_disk_New → Option O_disk_New) (F_store_Open : A_store_Open → M_store_Open → Option O_store_Open) {α : Type} (x1 : Int) (x2 : Int) (K : O_law22_made → Option α) : Option α :=
  (F_disk_New (x1, x2, ()) ()).bind fun r1 =>
  Sum.elim (fun u2 =>
   K (.inr (.inr ((), ()))))
  (fun u2 =>
   (F_store_Open () ((u2.snd.fst.fst, ()), u2.snd.snd.fst, u2.snd.snd.snd.fst, ())).bind fun r3 =>
   Sum.elim (fun u4 =>
    K (.inr (.inl ((), ((u4.snd.fst.fst, ()), (u4.snd.snd.fst, (u4.snd.snd.snd.fst, ())))))))
   (fun u4 =>
    K (.inl ((), ((), ((u4.snd.fst.fst, ()), (u4.snd.snd.fst, (u4.snd.snd.snd.fst, ()))))))) (r3)) (r1)
noncomputable def F_law22_made : A_law22_made → M_law22_made → Option O_law22_made := fun a b => tree_law22_made F_disk_New F_store_Open a.1 a.2.1 some
theorem n_law22_made (F_disk_New : A_disk_New → M_disk_New → Option O_disk_New) (F_store_Open : A_store_Open → M_store_Open → Option O_store_Open) (x1 : Int) (x2 : Int) {α : Type} (K : O_law22_made → Option α) : tree_law22_made F_disk_New F_store_Open x1 x2 K = (tree_law22_made F_disk_New F_store_Open x1 x2 some).bind K := by simp only [tree_law22_made, bind_cond, bind_none', bind_some', bind_bind', bind_sum]
theorem Fe_law22_made (x1 : Int) (x2 : Int) : F_law22_made (x1, (x2, ())) () = tree_law22_made F_disk_New F_store_Open x1 x2 some := rfl

/-! countersign/countersignlaw22.fixed -/
def args_law22_fixed : SkL := .nil
def mem_law22_fixed : MSk := []
def outs_law22_fixed : List OutC := [⟨(.leaf .bool), []⟩]
abbrev A_law22_fixed : Type := Unit
abbrev M_law22_fixed : Type := Unit
abbrev O_law22_fixed : Type := Bool × Unit
def tree_law22_fixed (F_law22_made : A_law22_made → M_law22_made → Option O_law22_made) (F_store_Store_Trust : A_store_Store_Trust → M_store_Store_Trust → Option O_store_Store_Trust) (F_store_Store_Reset : A_store_Store_Reset → M_store_Store_Reset → Option O_store_Store_Reset) (F_store_Store_Intend : A_store_Store_Intend → M_store_Store_Intend → Option O_store_Store_Intend) (F_store_Store_Settle : A_store_Store_Settle → M_store_Store_Settle → Option O_store_Store_Settle) {α : Type} (K : O_law22_fixed → Option α) : Option α :=
  (F_law22_made (2, 64, ()) ()).bind fun r1 =>
  Sum.elim (fun u2 =>
   (F_store_Store_Trust () ((), (u2.snd.snd.fst.fst, ()), u2.snd.snd.snd.fst, u2.snd.snd.snd.snd.fst, ())).bind fun r3 =>
   (F_store_Store_Reset (5, ()) ((), (u2.snd.snd.fst.fst, ()), u2.snd.snd.snd.fst, u2.snd.snd.snd.snd.fst, ())).bind fun r4 =>
   (F_store_Store_Intend (2, (ByteArray.mk #[120]), 9, ())   ((), (r4.snd.snd.fst.fst, ()), r4.snd.snd.snd.fst, r4.snd.snd.snd.snd.snd.fst, ())).bind fun r5 =>
   (F_store_Store_Settle (Bool.true, ())   ((), (r5.snd.snd.fst.fst, ()), r5.snd.snd.snd.fst, r5.snd.snd.snd.snd.snd.fst, ())).bind fun r6 =>
   (F_store_Store_Trust () ((), (r6.snd.snd.fst.fst, ()), r6.snd.snd.snd.fst, r6.snd.snd.snd.snd.snd.fst, ())).bind fun r7 =>
   (F_store_Store_Settle (Bool.true, ())   ((), (r6.snd.snd.fst.fst, ()), r6.snd.snd.snd.fst, r6.snd.snd.snd.snd.snd.fst, ())).bind fun r8 =>
   cond (!r3.fst.snd.fst)
   (cond (r4.fst)
    (cond (r5.fst)
     (cond (r6.fst)
      (cond (r7.fst.snd.fst)
       (cond (Bool.false ^^   r7.fst.fst.fst == 9 &&     (r7.fst.fst.snd.fst == 1 &&       (r7.fst.fst.snd.snd.fst == 0 &&         (r7.fst.fst.snd.snd.snd.fst == 0 &&           (r7.fst.fst.snd.snd.snd.snd.fst == 0 &&             (r7.fst.fst.snd.snd.snd.snd.snd.fst.toList == ByteArray.empty.toList && Bool.true))))))
        (K (!r8.fst, ()))
        (K (false, ())))
       (K (false, ())))
      (K (false, ())))
     (K (false, ())))
    (K (false, ())))
   (K (false, ())))
  (fun u2 =>
   Sum.elim (fun u9 =>
    K (false, ()))
   (fun u9 =>
    K (false, ())) (u2)) (r1)
noncomputable def F_law22_fixed : A_law22_fixed → M_law22_fixed → Option O_law22_fixed := fun a b => tree_law22_fixed F_law22_made F_store_Store_Trust F_store_Store_Reset F_store_Store_Intend F_store_Store_Settle some
theorem n_law22_fixed (F_law22_made : A_law22_made → M_law22_made → Option O_law22_made) (F_store_Store_Trust : A_store_Store_Trust → M_store_Store_Trust → Option O_store_Store_Trust) (F_store_Store_Reset : A_store_Store_Reset → M_store_Store_Reset → Option O_store_Store_Reset) (F_store_Store_Intend : A_store_Store_Intend → M_store_Store_Intend → Option O_store_Store_Intend) (F_store_Store_Settle : A_store_Store_Settle → M_store_Store_Settle → Option O_store_Store_Settle) {α : Type} (K : O_law22_fixed → Option α) : tree_law22_fixed F_law22_made F_store_Store_Trust F_store_Store_Reset F_store_Store_Intend F_store_Store_Settle K = (tree_law22_fixed F_law22_made F_store_Store_Trust F_store_Store_Reset F_store_Store_Intend F_store_Store_Settle some).bind K := by simp only [tree_law22_fixed, bind_cond, bind_none', bind_some', bind_bind', bind_sum]
theorem Fe_law22_fixed : F_law22_fixed () () = tree_law22_fixed F_law22_made F_store_Store_Trust F_store_Store_Reset F_store_Store_Intend F_store_Store_Settle some := rfl

/-! countersign/countersignlaw22.done -/
def args_law22_done : SkL := (.cons (.const (.ptr 0 0 0)) (.cons (.agg (.cons (.leaf (.int .i64)) (.cons (.leaf (.int .i64)) (.cons (.leaf (.int .u64)) (.cons (.leaf (.int .u64)) (.cons (.leaf .str) (.cons (.leaf (.slc 3 (.cons (.int .i64) .nil))) .nil))))))) .nil))
def mem_law22_done : MSk := [(0, .cells (.cons (.const (.ptr 1 0 0)) .nil)), (1, .cells (.cons (.leaf (.int .i64)) (.cons (.const (.slw 2)) (.cons (.const (.slw 3)) .nil)))), (2, .row 9 (.cons .str .nil)), (3, .row 127 (.cons (.int .i64) (.cons .str .nil)))]
def outs_law22_done : List OutC := [⟨(.leaf .bool), [(0, .cells (.cons (.const (.ptr 1 0 0)) .nil)), (1, .cells (.cons (.leaf (.int .i64)) (.cons (.const (.slw 2)) (.cons (.const (.slw 4)) .nil)))), (2, .row 9 (.cons .str .nil)), (3, .gone), (4, .row 127 (.cons (.int .i64) (.cons .str .nil)))]⟩]
abbrev A_law22_done : Type := ((Int × Int × Int × Int × ByteArray × List Int × Unit) × Unit)
abbrev M_law22_done : Type := (Unit × (Int × Unit) × List ByteArray × (List (Int × ByteArray)) × Unit)
abbrev O_law22_done : Type := Bool × (Unit × (Int × Unit) × List ByteArray × Unit × (List (Int × ByteArray)) × Unit)
def tree_law22_done (F_store_Store_Disk : A_store_Store_Disk → M_store_Store_Disk → Option O_store_Store_Disk) (F_store_Store_Reset : A_store_Store_Reset → M_store_Store_Reset → Option O_store_Store_Reset) (F_store_Store_Intend : A_store_Store_Intend → M_store_Store_Intend → Option O_store_Store_Intend) (F_store_Store_Settle : A_store_Store_Settle → M_store_Store_Settle → Option O_store_Store_Settle) (F_disk_Disk_Crash : A_disk_Disk_Crash → M_disk_Disk_Crash → Option O_disk_Disk_Crash) (F_disk_Disk_Write : A_disk_Disk_Write → M_disk_Disk_Write → Option O_disk_Disk_Write) (F_disk_Disk_Flush : A_disk_Disk_Flush → M_disk_Disk_Flush → Option O_disk_Disk_Flush) {α : Type} (x1 : Int) (x2 : Int) (x3 : Int) (x4 : Int) (x5 : ByteArray) (x6 : List Int) (x7 : Int) (x8 : List ByteArray) (x9 : List (Int × ByteArray)) (K : O_law22_done → Option α) : Option α :=
  (F_store_Store_Disk () ((), (x7, ()), x8, x9, ())).bind fun r1 =>
  cond (x1 == 0)
  ((F_store_Store_Reset (x3, ()) ((), (x7, ()), x8, x9, ())).bind fun r2 =>
   K (r2.fst, ((), ((r2.snd.snd.fst.fst, ()), (r2.snd.snd.snd.fst, ((), (r2.snd.snd.snd.snd.snd.fst, ())))))))
  (cond (x1 == 1)
   ((F_store_Store_Intend (x3, x5, x4, ()) ((), (x7, ()), x8, x9, ())).bind fun r3 =>
    K (r3.fst, ((), ((r3.snd.snd.fst.fst, ()), (r3.snd.snd.snd.fst, ((), (r3.snd.snd.snd.snd.snd.fst, ())))))))
   (cond (x1 == 2)
    ((F_store_Store_Settle (Bool.true, ()) ((), (x7, ()), x8, x9, ())).bind fun r4 =>
     K (r4.fst, ((), ((r4.snd.snd.fst.fst, ()), (r4.snd.snd.snd.fst, ((), (r4.snd.snd.snd.snd.snd.fst, ())))))))
    (cond (x1 == 3)
     ((F_store_Store_Settle (Bool.false, ()) ((), (x7, ()), x8, x9, ())).bind fun r5 =>
      K (r5.fst, ((), ((r5.snd.snd.fst.fst, ()), (r5.snd.snd.snd.fst, ((), (r5.snd.snd.snd.snd.snd.fst, ())))))))
     (cond (x1 == 4)
      ((F_disk_Disk_Crash (x6, ()) ((x7, ()), x8, x9, ())).bind fun r6 =>
       K (true, ((), ((r6.snd.fst.fst, ()), (r6.snd.snd.fst, ((), (r6.snd.snd.snd.snd.fst, ())))))))
      (cond (x1 == 5)
       ((F_disk_Disk_Write (x2, x5, ()) ((x7, ()), x8, x9, ())).bind fun r7 =>
        K (r7.fst, ((), ((r7.snd.fst.fst, ()), (r7.snd.snd.fst, ((), (r7.snd.snd.snd.snd.fst, ())))))))
       (cond (x1 == 6)
        ((F_disk_Disk_Flush () ((x7, ()), x8, x9, ())).bind fun r8 =>
         K (true, ((), ((r8.snd.fst.fst, ()), (r8.snd.snd.fst, ((), (r8.snd.snd.snd.snd.fst, ())))))))
        (K (true, ((), ((x7, ()), (x8, ((), (x9, ())))))))))))))
noncomputable def F_law22_done : A_law22_done → M_law22_done → Option O_law22_done := fun a b => tree_law22_done F_store_Store_Disk F_store_Store_Reset F_store_Store_Intend F_store_Store_Settle F_disk_Disk_Crash F_disk_Disk_Write F_disk_Disk_Flush a.1.1 a.1.2.1 a.1.2.2.1 a.1.2.2.2.1 a.1.2.2.2.2.1 a.1.2.2.2.2.2.1 b.2.1.1 b.2.2.1 b.2.2.2.1 some
theorem n_law22_done (F_store_Store_Disk : A_store_Store_Disk → M_store_Store_Disk → Option O_store_Store_Disk) (F_store_Store_Reset : A_store_Store_Reset → M_store_Store_Reset → Option O_store_Store_Reset) (F_store_Store_Intend : A_store_Store_Intend → M_store_Store_Intend → Option O_store_Store_Intend) (F_store_Store_Settle : A_store_Store_Settle → M_store_Store_Settle → Option O_store_Store_Settle) (F_disk_Disk_Crash : A_disk_Disk_Crash → M_disk_Disk_Crash → Option O_disk_Disk_Crash) (F_disk_Disk_Write : A_disk_Disk_Write → M_disk_Disk_Write → Option O_disk_Disk_Write) (F_disk_Disk_Flush : A_disk_Disk_Flush → M_disk_Disk_Flush → Option O_disk_Disk_Flush) (x1 : Int) (x2 : Int) (x3 : Int) (x4 : Int) (x5 : ByteArray) (x6 : List Int) (x7 : Int) (x8 : List ByteArray) (x9 : List (Int × ByteArray)) {α : Type} (K : O_law22_done → Option α) : tree_law22_done F_store_Store_Disk F_store_Store_Reset F_store_Store_Intend F_store_Store_Settle F_disk_Disk_Crash F_disk_Disk_Write F_disk_Disk_Flush x1 x2 x3 x4 x5 x6 x7 x8 x9 K = (tree_law22_done F_store_Store_Disk F_store_Store_Reset F_store_Store_Intend F_store_Store_Settle F_disk_Disk_Crash F_disk_Disk_Write F_disk_Disk_Flush x1 x2 x3 x4 x5 x6 x7 x8 x9 some).bind K := by simp only [tree_law22_done, bind_cond, bind_none', bind_some', bind_bind', bind_sum]
theorem Fe_law22_done (x1 : Int) (x2 : Int) (x3 : Int) (x4 : Int) (x5 : ByteArray) (x6 : List Int) (x7 : Int) (x8 : List ByteArray) (x9 : List (Int × ByteArray)) : F_law22_done ((x1, (x2, (x3, (x4, (x5, (x6, ())))))), ()) ((), ((x7, ()), (x8, (x9, ())))) = tree_law22_done F_store_Store_Disk F_store_Store_Reset F_store_Store_Intend F_store_Store_Settle F_disk_Disk_Crash F_disk_Disk_Write F_disk_Disk_Flush x1 x2 x3 x4 x5 x6 x7 x8 x9 some := rfl

end Go.Proofs.Ytlfedmjjjbhnpaa.S2
