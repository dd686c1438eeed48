/- Plain forms of the program's functions, by program. -/
import Derived.Test.YtgfanlafbjbkaaaGslot
import Derived.Test.YtgfanlafbjbkaaaGrslot
set_option maxRecDepth 100000
set_option maxHeartbeats 0
set_option linter.unusedVariables false
set_option linter.unusedSimpArgs false
namespace Go.Proofs.Ytgfanlafbjbkaaa.S2
open Go
/-! countersign/countersignlaw09.fixed -/
def args_law09_fixed : SkL := .nil
def mem_law09_fixed : MSk := []
def outs_law09_fixed : List OutC := [⟨(.leaf .bool), []⟩]
abbrev A_law09_fixed : Type := Unit
abbrev M_law09_fixed : Type := Unit
abbrev O_law09_fixed : Type := Bool × Unit
def tree_law09_fixed (F_slot_Frame : A_slot_Frame → M_slot_Frame → Option O_slot_Frame) (F_disk_New : A_disk_New → M_disk_New → Option O_disk_New) (F_slot_Load : A_slot_Load → M_slot_Load → Option O_slot_Load) (F_slot_Save : A_slot_Save → M_slot_Save → Option O_slot_Save) (F_ref09_Eight : A_ref09_Eight → M_ref09_Eight → Option O_ref09_Eight) (F_ref08_Zeros : A_ref08_Zeros → M_ref08_Zeros → Option O_ref08_Zeros) {α : Type} (K : O_law09_fixed → Option α) : Option α :=
  (F_slot_Frame (1, (ByteArray.mk #[104, 105]), 32, ()) ()).bind fun r1 =>
  (F_disk_New (2, 32, ()) ()).bind fun r2 =>
  Sum.elim (fun u3 =>
   (F_slot_Frame (0, (ByteArray.mk #[104, 105]), 32, ()) ()).bind fun r4 =>
   cond (!r1.fst.snd.fst)
   (K (false, ()))
   (K (false, ())))
  (fun u3 =>
   (F_slot_Frame (0, (ByteArray.mk #[104, 105]), 32, ()) ()).bind fun r5 =>
   cond (!r1.fst.snd.fst)
   (K (false, ()))
   (cond (r5.fst.snd.fst)
    (K (false, ()))
    ((F_slot_Load (0, 1, ()) ((u3.snd.fst.fst, ()), u3.snd.snd.fst, u3.snd.snd.snd.fst, ())).bind fun r6 =>
     (F_slot_Save (0, 1, (ByteArray.mk #[97]), ())   ((u3.snd.fst.fst, ()), u3.snd.snd.fst, u3.snd.snd.snd.fst, ())).bind fun r7 =>
     (F_slot_Load (0, 1, ()) ((r7.snd.fst.fst, ()), r7.snd.snd.fst, r7.snd.snd.snd.snd.fst, ())).bind fun r8 =>
     (F_ref09_Eight (1, ()) ()).bind fun r9 =>
     cond (decide (r9.fst.size + 4 ≤ 9223372036854775807))
     ((F_ref08_Zeros (12, ()) ()).bind fun r10 =>
      cond (decide ((r9.fst ++ (ByteArray.mk #[0, 2, 104, 105])).size + r10.fst.size ≤ 9223372036854775807))
      ((F_ref09_Eight (1, ()) ()).bind fun r11 =>
       cond (decide ((r9.fst ++ (ByteArray.mk #[0, 2, 104, 105]) ++ r10.fst).size + r11.fst.size ≤ 9223372036854775807))
       (cond (r1.fst.fst.toList == (r9.fst ++ (ByteArray.mk #[0, 2, 104, 105]) ++ r10.fst ++ r11.fst).toList)
        (cond (r6.fst.fst == 0)
         (cond (r6.fst.snd.fst.toList == ByteArray.empty.toList)
          (cond (r7.fst)
           (cond (r8.fst.fst == 1)
            (K (r8.fst.snd.fst.toList == (ByteArray.mk #[97]).toList, ()))
            (K (false, ())))
           (K (false, ())))
          (K (false, ())))
         (K (false, ())))
        (K (false, ())))
       (none))
      (none))
     (none)))) (r2)
noncomputable def F_law09_fixed : A_law09_fixed → M_law09_fixed → Option O_law09_fixed := fun a b => tree_law09_fixed F_slot_Frame F_disk_New F_slot_Load F_slot_Save F_ref09_Eight F_ref08_Zeros some
theorem n_law09_fixed (F_slot_Frame : A_slot_Frame → M_slot_Frame → Option O_slot_Frame) (F_disk_New : A_disk_New → M_disk_New → Option O_disk_New) (F_slot_Load : A_slot_Load → M_slot_Load → Option O_slot_Load) (F_slot_Save : A_slot_Save → M_slot_Save → Option O_slot_Save) (F_ref09_Eight : A_ref09_Eight → M_ref09_Eight → Option O_ref09_Eight) (F_ref08_Zeros : A_ref08_Zeros → M_ref08_Zeros → Option O_ref08_Zeros) {α : Type} (K : O_law09_fixed → Option α) : tree_law09_fixed F_slot_Frame F_disk_New F_slot_Load F_slot_Save F_ref09_Eight F_ref08_Zeros K = (tree_law09_fixed F_slot_Frame F_disk_New F_slot_Load F_slot_Save F_ref09_Eight F_ref08_Zeros some).bind K := by simp only [tree_law09_fixed, bind_cond, bind_none', bind_some', bind_bind', bind_sum]
theorem Fe_law09_fixed : F_law09_fixed () () = tree_law09_fixed F_slot_Frame F_disk_New F_slot_Load F_slot_Save F_ref09_Eight F_ref08_Zeros some := rfl

end Go.Proofs.Ytgfanlafbjbkaaa.S2
