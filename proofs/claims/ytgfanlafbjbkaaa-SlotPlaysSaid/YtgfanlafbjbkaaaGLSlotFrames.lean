/- Plain forms of the program's functions, by program. -/
import Derived.Test.YtgfanlafbjbkaaaGlaw09
set_option maxRecDepth 100000
set_option maxHeartbeats 0
set_option linter.unusedVariables false
set_option linter.unusedSimpArgs false
namespace Go.Proofs.Ytgfanlafbjbkaaa.S2
open Go
/-! countersign/countersignlaw09.SlotFrames -/
def args_law09_SlotFrames : SkL := (.cons (.agg (.cons (.leaf (.int .u64)) (.cons (.leaf .str) (.cons (.leaf (.int .i64)) .nil)))) (.cons (.leaf .str) .nil))
def mem_law09_SlotFrames : MSk := []
def outs_law09_SlotFrames : List OutC := [⟨(.leaf .bool), []⟩]
abbrev A_law09_SlotFrames : Type := ((Int × ByteArray × Int × Unit) × ByteArray × Unit)
abbrev M_law09_SlotFrames : Type := Unit
abbrev O_law09_SlotFrames : Type := Bool × Unit
def tree_law09_SlotFrames (F_slot_Frame : A_slot_Frame → M_slot_Frame → Option O_slot_Frame) (F_ref09_Frame : A_ref09_Frame → M_ref09_Frame → Option O_ref09_Frame) (F_slot_Unframe : A_slot_Unframe → M_slot_Unframe → Option O_slot_Unframe) (F_ref09_Unframe : A_ref09_Unframe → M_ref09_Unframe → Option O_ref09_Unframe) (F_law09_fixed : A_law09_fixed → M_law09_fixed → Option O_law09_fixed) {α : Type} (x1 : Int) (x2 : ByteArray) (x3 : Int) (x4 : ByteArray) (K : O_law09_SlotFrames → Option α) : Option α :=
  (F_slot_Frame (x1, x2, x3, ()) ()).bind fun r1 =>
  (F_ref09_Frame (x1, x2, x3, ()) ()).bind fun r2 =>
  (F_slot_Unframe (x4, ()) ()).bind fun r3 =>
  (F_ref09_Unframe (x4, ()) ()).bind fun r4 =>
  (F_law09_fixed () ()).bind fun r5 =>
  cond (!r5.fst)
  (K (false, ()))
  (cond (!r1.fst.fst.toList == r2.fst.fst.toList)
   (K (false, ()))
   (cond (r1.fst.snd.fst != r2.fst.snd.fst)
    (K (false, ()))
    (cond (r3.fst.fst != r4.fst.fst)
     (K (false, ()))
     (cond (!r3.fst.snd.fst.toList == r4.fst.snd.fst.toList)
      (K (false, ()))
      (cond (r3.fst.snd.snd.fst != r4.fst.snd.snd.fst)
       (K (false, ()))
       (cond (!r1.fst.snd.fst)
        (K (true, ()))
        ((F_slot_Unframe (r1.fst.fst, ()) ()).bind fun r6 =>
         cond (r6.fst.snd.snd.fst)
         (cond (r6.fst.fst == x1)
          (cond (r6.fst.snd.fst.toList == x2.toList)
           (K ((↑r1.fst.fst.size : Int) == x3, ()))
           (K (false, ())))
          (K (false, ())))
         (K (false, ())))))))))
noncomputable def F_law09_SlotFrames : A_law09_SlotFrames → M_law09_SlotFrames → Option O_law09_SlotFrames := fun a b => tree_law09_SlotFrames F_slot_Frame F_ref09_Frame F_slot_Unframe F_ref09_Unframe F_law09_fixed a.1.1 a.1.2.1 a.1.2.2.1 a.2.1 some
theorem n_law09_SlotFrames (F_slot_Frame : A_slot_Frame → M_slot_Frame → Option O_slot_Frame) (F_ref09_Frame : A_ref09_Frame → M_ref09_Frame → Option O_ref09_Frame) (F_slot_Unframe : A_slot_Unframe → M_slot_Unframe → Option O_slot_Unframe) (F_ref09_Unframe : A_ref09_Unframe → M_ref09_Unframe → Option O_ref09_Unframe) (F_law09_fixed : A_law09_fixed → M_law09_fixed → Option O_law09_fixed) (x1 : Int) (x2 : ByteArray) (x3 : Int) (x4 : ByteArray) {α : Type} (K : O_law09_SlotFrames → Option α) : tree_law09_SlotFrames F_slot_Frame F_ref09_Frame F_slot_Unframe F_ref09_Unframe F_law09_fixed x1 x2 x3 x4 K = (tree_law09_SlotFrames F_slot_Frame F_ref09_Frame F_slot_Unframe F_ref09_Unframe F_law09_fixed x1 x2 x3 x4 some).bind K := by simp only [tree_law09_SlotFrames, bind_cond, bind_none', bind_some', bind_bind', bind_sum]
theorem Fe_law09_SlotFrames (x1 : Int) (x2 : ByteArray) (x3 : Int) (x4 : ByteArray) : F_law09_SlotFrames ((x1, (x2, (x3, ()))), (x4, ())) () = tree_law09_SlotFrames F_slot_Frame F_ref09_Frame F_slot_Unframe F_ref09_Unframe F_law09_fixed x1 x2 x3 x4 some := rfl

end Go.Proofs.Ytgfanlafbjbkaaa.S2
