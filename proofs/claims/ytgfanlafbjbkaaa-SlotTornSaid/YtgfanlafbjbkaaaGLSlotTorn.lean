/- Plain forms of the program's functions, by program. -/
import Derived.Test.YtgfanlafbjbkaaaGlaw09
set_option maxRecDepth 100000
set_option maxHeartbeats 0
set_option linter.unusedVariables false
set_option linter.unusedSimpArgs false
namespace Go.Proofs.Ytgfanlafbjbkaaa.S2
open Go
/-! countersign/countersignlaw09.SlotTorn -/
def args_law09_SlotTorn : SkL := (.cons (.agg (.cons (.leaf (.int .u64)) (.cons (.leaf .str) (.cons (.leaf (.int .i64)) .nil)))) (.cons (.agg (.cons (.leaf (.int .u64)) (.cons (.leaf .str) (.cons (.leaf (.int .i64)) .nil)))) (.cons (.leaf (.int .i64)) .nil)))
def mem_law09_SlotTorn : MSk := []
def outs_law09_SlotTorn : List OutC := [⟨(.leaf .bool), []⟩]
abbrev A_law09_SlotTorn : Type := ((Int × ByteArray × Int × Unit) × (Int × ByteArray × Int × Unit) × Int × Unit)
abbrev M_law09_SlotTorn : Type := Unit
abbrev O_law09_SlotTorn : Type := Bool × Unit
def tree_law09_SlotTorn (F_slot_Frame : A_slot_Frame → M_slot_Frame → Option O_slot_Frame) (F_ref08_Zeros : A_ref08_Zeros → M_ref08_Zeros → Option O_ref08_Zeros) (F_law09_fixed : A_law09_fixed → M_law09_fixed → Option O_law09_fixed) (F_slot_Unframe : A_slot_Unframe → M_slot_Unframe → Option O_slot_Unframe) {α : Type} (x1 : Int) (x2 : ByteArray) (x3 : Int) (x4 : Int) (x5 : ByteArray) (x6 : Int) (x7 : Int) (K : O_law09_SlotTorn → Option α) : Option α :=
  (F_slot_Frame (x1, x2, x3, ()) ()).bind fun r1 =>
  cond (x1 == 0)
  (cond (decide (x3 ≥ 32))
   (cond (decide (x3 ≤ 512))
    ((F_ref08_Zeros (x3, ()) ()).bind fun r2 =>
     (F_slot_Frame (x4, x5, x3, ()) ()).bind fun r3 =>
     (F_law09_fixed () ()).bind fun r4 =>
     cond (!r4.fst)
     ((F_law09_fixed () ()).bind fun r5 =>
      K (r5.fst, ()))
     (cond (!r3.fst.snd.fst)
      ((F_law09_fixed () ()).bind fun r6 =>
       K (r6.fst, ()))
      (cond (x1 == x4)
       ((F_law09_fixed () ()).bind fun r7 =>
        K (r7.fst, ()))
       (cond (decide (x7 < 0))
        ((F_law09_fixed () ()).bind fun r8 =>
         K (r8.fst, ()))
        (cond (decide (x7 > x3))
         ((F_law09_fixed () ()).bind fun r9 =>
          K (r9.fst, ()))
         (cond ((↑r2.fst.size : Int) != x3)
          ((F_law09_fixed () ()).bind fun r10 =>
           K (r10.fst, ()))
          (cond ((↑r3.fst.fst.size : Int) != x3)
           ((F_law09_fixed () ()).bind fun r11 =>
            K (r11.fst, ()))
           (cond (decide (0 ≤ x7))
            (cond (decide (x7 ≤ (↑r3.fst.fst.size : Int)))
             (cond (decide (0 ≤ x7))
              (cond (decide (x7 ≤ (↑r2.fst.size : Int)))
               (cond (decide   ((r3.fst.fst.extract 0 x7.toNat).size + (r2.fst.extract x7.toNat r2.fst.size).size ≤ 9223372036854775807))
                ((F_slot_Unframe (r3.fst.fst.extract 0 x7.toNat ++ r2.fst.extract x7.toNat r2.fst.size, ()) ()).bind fun r12 =>
                 cond (!r12.fst.snd.snd.fst)
                 (K (true, ()))
                 (cond (r12.fst.fst == x1)
                  (cond (r12.fst.snd.fst.toList == x2.toList)
                   (cond (x1 != 0)
                    (K (true, ()))
                    (cond (r12.fst.fst == x4)
                     (K (r12.fst.snd.fst.toList == x5.toList, ()))
                     (K (false, ()))))
                   (cond (r12.fst.fst == x4)
                    (K (r12.fst.snd.fst.toList == x5.toList, ()))
                    (K (false, ()))))
                  (cond (r12.fst.fst == x4)
                   (K (r12.fst.snd.fst.toList == x5.toList, ()))
                   (K (false, ())))))
                (none))
               (none))
              (none))
             (none))
            (none)))))))))
    ((F_slot_Frame (x4, x5, x3, ()) ()).bind fun r13 =>
     (F_law09_fixed () ()).bind fun r14 =>
     cond (!r14.fst)
     ((F_law09_fixed () ()).bind fun r15 =>
      K (r15.fst, ()))
     (cond (!r1.fst.snd.fst)
      ((F_law09_fixed () ()).bind fun r16 =>
       K (r16.fst, ()))
      (cond (!r13.fst.snd.fst)
       ((F_law09_fixed () ()).bind fun r17 =>
        K (r17.fst, ()))
       (cond (x1 == x4)
        ((F_law09_fixed () ()).bind fun r18 =>
         K (r18.fst, ()))
        (cond (decide (x7 < 0))
         ((F_law09_fixed () ()).bind fun r19 =>
          K (r19.fst, ()))
         (cond (decide (x7 > x3))
          ((F_law09_fixed () ()).bind fun r20 =>
           K (r20.fst, ()))
          (cond ((↑r1.fst.fst.size : Int) != x3)
           ((F_law09_fixed () ()).bind fun r21 =>
            K (r21.fst, ()))
           (cond ((↑r13.fst.fst.size : Int) != x3)
            ((F_law09_fixed () ()).bind fun r22 =>
             K (r22.fst, ()))
            (cond (decide (0 ≤ x7))
             (cond (decide (x7 ≤ (↑r13.fst.fst.size : Int)))
              (cond (decide (0 ≤ x7))
               (cond (decide (x7 ≤ (↑r1.fst.fst.size : Int)))
                (cond (decide   ((r13.fst.fst.extract 0 x7.toNat).size + (r1.fst.fst.extract x7.toNat r1.fst.fst.size).size ≤ 9223372036854775807))
                 ((F_slot_Unframe (r13.fst.fst.extract 0 x7.toNat ++ r1.fst.fst.extract x7.toNat r1.fst.fst.size, ()) ()).bind fun r23 =>
                  cond (!r23.fst.snd.snd.fst)
                  (K (true, ()))
                  (cond (r23.fst.fst == x1)
                   (cond (r23.fst.snd.fst.toList == x2.toList)
                    (cond (x1 != 0)
                     (K (true, ()))
                     (cond (r23.fst.fst == x4)
                      (K (r23.fst.snd.fst.toList == x5.toList, ()))
                      (K (false, ()))))
                    (cond (r23.fst.fst == x4)
                     (K (r23.fst.snd.fst.toList == x5.toList, ()))
                     (K (false, ()))))
                   (cond (r23.fst.fst == x4)
                    (K (r23.fst.snd.fst.toList == x5.toList, ()))
                    (K (false, ())))))
                 (none))
                (none))
               (none))
              (none))
             (none)))))))))))
   ((F_slot_Frame (x4, x5, x3, ()) ()).bind fun r24 =>
    (F_law09_fixed () ()).bind fun r25 =>
    cond (!r25.fst)
    ((F_law09_fixed () ()).bind fun r26 =>
     K (r26.fst, ()))
    (cond (!r1.fst.snd.fst)
     ((F_law09_fixed () ()).bind fun r27 =>
      K (r27.fst, ()))
     (cond (!r24.fst.snd.fst)
      ((F_law09_fixed () ()).bind fun r28 =>
       K (r28.fst, ()))
      (cond (x1 == x4)
       ((F_law09_fixed () ()).bind fun r29 =>
        K (r29.fst, ()))
       (cond (decide (x7 < 0))
        ((F_law09_fixed () ()).bind fun r30 =>
         K (r30.fst, ()))
        (cond (decide (x7 > x3))
         ((F_law09_fixed () ()).bind fun r31 =>
          K (r31.fst, ()))
         (cond ((↑r1.fst.fst.size : Int) != x3)
          ((F_law09_fixed () ()).bind fun r32 =>
           K (r32.fst, ()))
          (cond ((↑r24.fst.fst.size : Int) != x3)
           ((F_law09_fixed () ()).bind fun r33 =>
            K (r33.fst, ()))
           (cond (decide (0 ≤ x7))
            (cond (decide (x7 ≤ (↑r24.fst.fst.size : Int)))
             (cond (decide (0 ≤ x7))
              (cond (decide (x7 ≤ (↑r1.fst.fst.size : Int)))
               (cond (decide   ((r24.fst.fst.extract 0 x7.toNat).size + (r1.fst.fst.extract x7.toNat r1.fst.fst.size).size ≤ 9223372036854775807))
                ((F_slot_Unframe (r24.fst.fst.extract 0 x7.toNat ++ r1.fst.fst.extract x7.toNat r1.fst.fst.size, ()) ()).bind fun r34 =>
                 cond (!r34.fst.snd.snd.fst)
                 (K (true, ()))
                 (cond (r34.fst.fst == x1)
                  (cond (r34.fst.snd.fst.toList == x2.toList)
                   (cond (x1 != 0)
                    (K (true, ()))
                    (cond (r34.fst.fst == x4)
                     (K (r34.fst.snd.fst.toList == x5.toList, ()))
                     (K (false, ()))))
                   (cond (r34.fst.fst == x4)
                    (K (r34.fst.snd.fst.toList == x5.toList, ()))
                    (K (false, ()))))
                  (cond (r34.fst.fst == x4)
                   (K (r34.fst.snd.fst.toList == x5.toList, ()))
                   (K (false, ())))))
                (none))
               (none))
              (none))
             (none))
            (none)))))))))))
  ((F_slot_Frame (x4, x5, x3, ()) ()).bind fun r35 =>
   (F_law09_fixed () ()).bind fun r36 =>
   cond (!r36.fst)
   ((F_law09_fixed () ()).bind fun r37 =>
    K (r37.fst, ()))
   (cond (!r1.fst.snd.fst)
    ((F_law09_fixed () ()).bind fun r38 =>
     K (r38.fst, ()))
    (cond (!r35.fst.snd.fst)
     ((F_law09_fixed () ()).bind fun r39 =>
      K (r39.fst, ()))
     (cond (x1 == x4)
      ((F_law09_fixed () ()).bind fun r40 =>
       K (r40.fst, ()))
      (cond (decide (x7 < 0))
       ((F_law09_fixed () ()).bind fun r41 =>
        K (r41.fst, ()))
       (cond (decide (x7 > x3))
        ((F_law09_fixed () ()).bind fun r42 =>
         K (r42.fst, ()))
        (cond ((↑r1.fst.fst.size : Int) != x3)
         ((F_law09_fixed () ()).bind fun r43 =>
          K (r43.fst, ()))
         (cond ((↑r35.fst.fst.size : Int) != x3)
          ((F_law09_fixed () ()).bind fun r44 =>
           K (r44.fst, ()))
          (cond (decide (0 ≤ x7))
           (cond (decide (x7 ≤ (↑r35.fst.fst.size : Int)))
            (cond (decide (0 ≤ x7))
             (cond (decide (x7 ≤ (↑r1.fst.fst.size : Int)))
              (cond (decide   ((r35.fst.fst.extract 0 x7.toNat).size + (r1.fst.fst.extract x7.toNat r1.fst.fst.size).size ≤ 9223372036854775807))
               ((F_slot_Unframe (r35.fst.fst.extract 0 x7.toNat ++ r1.fst.fst.extract x7.toNat r1.fst.fst.size, ()) ()).bind fun r45 =>
                cond (!r45.fst.snd.snd.fst)
                (K (true, ()))
                (cond (r45.fst.fst == x1)
                 (cond (r45.fst.snd.fst.toList == x2.toList)
                  (cond (x1 != 0)
                   (K (true, ()))
                   (cond (r45.fst.fst == x4)
                    (K (r45.fst.snd.fst.toList == x5.toList, ()))
                    (K (false, ()))))
                  (cond (r45.fst.fst == x4)
                   (K (r45.fst.snd.fst.toList == x5.toList, ()))
                   (K (false, ()))))
                 (cond (r45.fst.fst == x4)
                  (K (r45.fst.snd.fst.toList == x5.toList, ()))
                  (K (false, ())))))
               (none))
              (none))
             (none))
            (none))
           (none))))))))))
noncomputable def F_law09_SlotTorn : A_law09_SlotTorn → M_law09_SlotTorn → Option O_law09_SlotTorn := fun a b => tree_law09_SlotTorn F_slot_Frame F_ref08_Zeros F_law09_fixed F_slot_Unframe a.1.1 a.1.2.1 a.1.2.2.1 a.2.1.1 a.2.1.2.1 a.2.1.2.2.1 a.2.2.1 some
theorem n_law09_SlotTorn (F_slot_Frame : A_slot_Frame → M_slot_Frame → Option O_slot_Frame) (F_ref08_Zeros : A_ref08_Zeros → M_ref08_Zeros → Option O_ref08_Zeros) (F_law09_fixed : A_law09_fixed → M_law09_fixed → Option O_law09_fixed) (F_slot_Unframe : A_slot_Unframe → M_slot_Unframe → Option O_slot_Unframe) (x1 : Int) (x2 : ByteArray) (x3 : Int) (x4 : Int) (x5 : ByteArray) (x6 : Int) (x7 : Int) {α : Type} (K : O_law09_SlotTorn → Option α) : tree_law09_SlotTorn F_slot_Frame F_ref08_Zeros F_law09_fixed F_slot_Unframe x1 x2 x3 x4 x5 x6 x7 K = (tree_law09_SlotTorn F_slot_Frame F_ref08_Zeros F_law09_fixed F_slot_Unframe x1 x2 x3 x4 x5 x6 x7 some).bind K := by simp only [tree_law09_SlotTorn, bind_cond, bind_none', bind_some', bind_bind', bind_sum]
theorem Fe_law09_SlotTorn (x1 : Int) (x2 : ByteArray) (x3 : Int) (x4 : Int) (x5 : ByteArray) (x6 : Int) (x7 : Int) : F_law09_SlotTorn ((x1, (x2, (x3, ()))), ((x4, (x5, (x6, ()))), (x7, ()))) () = tree_law09_SlotTorn F_slot_Frame F_ref08_Zeros F_law09_fixed F_slot_Unframe x1 x2 x3 x4 x5 x6 x7 some := rfl

end Go.Proofs.Ytgfanlafbjbkaaa.S2
