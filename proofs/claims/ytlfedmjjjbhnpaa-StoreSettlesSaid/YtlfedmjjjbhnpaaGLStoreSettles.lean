/- Plain forms of the program's functions, by program. -/
import Derived.Test.YtlfedmjjjbhnpaaGlaw22
import Derived.Test.YtlfedmjjjbhnpaaGrstore
set_option maxRecDepth 100000
set_option maxHeartbeats 0
set_option linter.unusedVariables false
set_option linter.unusedSimpArgs false
namespace Go.Proofs.Ytlfedmjjjbhnpaa.S2
open Go
/-! countersign/countersignlaw22.StoreSettles -/
def args_law22_StoreSettles : SkL := (.cons (.agg (.cons (.leaf (.int .u64)) (.cons (.leaf (.int .u64)) (.cons (.leaf (.int .u64)) .nil)))) (.cons (.leaf .str) .nil))
def mem_law22_StoreSettles : MSk := []
def outs_law22_StoreSettles : List OutC := [⟨(.leaf .bool), []⟩]
abbrev A_law22_StoreSettles : Type := ((Int × Int × Int × Unit) × ByteArray × Unit)
abbrev M_law22_StoreSettles : Type := Unit
abbrev O_law22_StoreSettles : Type := Bool × Unit
def tree_law22_StoreSettles (F_law22_made : A_law22_made → M_law22_made → Option O_law22_made) (F_law22_fixed : A_law22_fixed → M_law22_fixed → Option O_law22_fixed) (F_store_Store_Reset : A_store_Store_Reset → M_store_Store_Reset → Option O_store_Store_Reset) (F_store_Store_Trust : A_store_Store_Trust → M_store_Store_Trust → Option O_store_Store_Trust) (F_store_Store_Intend : A_store_Store_Intend → M_store_Store_Intend → Option O_store_Store_Intend) (F_ref22_Text : A_ref22_Text → M_ref22_Text → Option O_ref22_Text) (F_ref09_Frame : A_ref09_Frame → M_ref09_Frame → Option O_ref09_Frame) (F_store_Store_Settle : A_store_Store_Settle → M_store_Store_Settle → Option O_store_Store_Settle) {α : Type} (x1 : Int) (x2 : Int) (x3 : Int) (x4 : ByteArray) (K : O_law22_StoreSettles → Option α) : Option α :=
  (F_law22_made (2, 128, ()) ()).bind fun r1 =>
  Sum.elim (fun u2 =>
   (F_law22_fixed () ()).bind fun r3 =>
   cond (!r3.fst)
   (K (false, ()))
   ((F_store_Store_Reset (x1, ())   ((), (u2.snd.snd.fst.fst, ()), u2.snd.snd.snd.fst, u2.snd.snd.snd.snd.fst, ())).bind fun r4 =>
    cond (!r4.fst)
    (K (false, ()))
    ((F_store_Store_Trust () ((), (r4.snd.snd.fst.fst, ()), r4.snd.snd.snd.fst, r4.snd.snd.snd.snd.snd.fst, ())).bind fun r5 =>
     (F_store_Store_Intend (x2, x4, x3, ())   ((), (r4.snd.snd.fst.fst, ()), r4.snd.snd.snd.fst, r4.snd.snd.snd.snd.snd.fst, ())).bind fun r6 =>
     cond (!r6.fst)
     ((F_ref22_Text ((x1, 0, 1, x2, x3, x4, ()), ()) ()).bind fun r7 =>
      (F_ref09_Frame (1, r7.fst, 128, ()) ()).bind fun r8 =>
      (F_store_Store_Trust () ((), (r6.snd.snd.fst.fst, ()), r6.snd.snd.snd.fst, r6.snd.snd.snd.snd.snd.fst, ())).bind fun r9 =>
      cond (!r8.fst.snd.fst)
      (K (Bool.false ^^   r9.fst.fst.fst == r5.fst.fst.fst &&     (r9.fst.fst.snd.fst == r5.fst.fst.snd.fst &&       (r9.fst.fst.snd.snd.fst == r5.fst.fst.snd.snd.fst &&         (r9.fst.fst.snd.snd.snd.fst == r5.fst.fst.snd.snd.snd.fst &&           (r9.fst.fst.snd.snd.snd.snd.fst == r5.fst.fst.snd.snd.snd.snd.fst &&             (r9.fst.fst.snd.snd.snd.snd.snd.fst.toList == r5.fst.fst.snd.snd.snd.snd.snd.fst.toList && Bool.true))))), ()))
      (K (false, ())))
     ((F_store_Store_Trust () ((), (r6.snd.snd.fst.fst, ()), r6.snd.snd.snd.fst, r6.snd.snd.snd.snd.snd.fst, ())).bind fun r10 =>
      (F_store_Store_Intend (x2, ByteArray.empty, x3, ())   ((), (r6.snd.snd.fst.fst, ()), r6.snd.snd.snd.fst, r6.snd.snd.snd.snd.snd.fst, ())).bind fun r11 =>
      cond (Bool.true ^^   r10.fst.fst.fst == x1 &&     (r10.fst.fst.snd.fst == 0 &&       (r10.fst.fst.snd.snd.fst == 1 &&         (r10.fst.fst.snd.snd.snd.fst == x2 &&           (r10.fst.fst.snd.snd.snd.snd.fst == x3 &&             (r10.fst.fst.snd.snd.snd.snd.snd.fst.toList == x4.toList && Bool.true))))))
      (K (false, ()))
      (cond (r11.fst)
       (K (false, ()))
       ((F_store_Store_Settle (Bool.false, ())   ((), (r11.snd.snd.fst.fst, ()), r11.snd.snd.snd.fst, r11.snd.snd.snd.snd.snd.fst, ())).bind fun r12 =>
        cond (!r12.fst)
        (K (false, ()))
        ((F_store_Store_Trust ()   ((), (r12.snd.snd.fst.fst, ()), r12.snd.snd.snd.fst, r12.snd.snd.snd.snd.snd.fst, ())).bind fun r13 =>
         cond (Bool.true ^^   r13.fst.fst.fst == r5.fst.fst.fst &&     (r13.fst.fst.snd.fst == r5.fst.fst.snd.fst &&       (r13.fst.fst.snd.snd.fst == r5.fst.fst.snd.snd.fst &&         (r13.fst.fst.snd.snd.snd.fst == r5.fst.fst.snd.snd.snd.fst &&           (r13.fst.fst.snd.snd.snd.snd.fst == r5.fst.fst.snd.snd.snd.snd.fst &&             (r13.fst.fst.snd.snd.snd.snd.snd.fst.toList == r5.fst.fst.snd.snd.snd.snd.snd.fst.toList && Bool.true))))))
         (K (false, ()))
         ((F_store_Store_Settle (Bool.false, ())   ((), (r12.snd.snd.fst.fst, ()), r12.snd.snd.snd.fst, r12.snd.snd.snd.snd.snd.fst, ())).bind fun r14 =>
          cond (r14.fst)
          (K (false, ()))
          ((F_store_Store_Intend (x2, x4, x3, ())   ((), (r14.snd.snd.fst.fst, ()), r14.snd.snd.snd.fst, r14.snd.snd.snd.snd.snd.fst, ())).bind fun r15 =>
           cond (!r15.fst)
           (K (false, ()))
           ((F_store_Store_Settle (Bool.true, ())   ((), (r15.snd.snd.fst.fst, ()), r15.snd.snd.snd.fst, r15.snd.snd.snd.snd.snd.fst, ())).bind fun r16 =>
            cond (!r16.fst)
            (K (false, ()))
            ((F_store_Store_Trust ()   ((), (r16.snd.snd.fst.fst, ()), r16.snd.snd.snd.fst, r16.snd.snd.snd.snd.snd.fst, ())).bind fun r17 =>
             K (Bool.false ^^   r17.fst.fst.fst == x3 &&     (r17.fst.fst.snd.fst == 1 &&       (r17.fst.fst.snd.snd.fst == 0 &&         (r17.fst.fst.snd.snd.snd.fst == 0 &&           (r17.fst.fst.snd.snd.snd.snd.fst == 0 &&             (r17.fst.fst.snd.snd.snd.snd.snd.fst.toList == ByteArray.empty.toList && Bool.true))))), ()))))))))))))
  (fun u2 =>
   Sum.elim (fun u18 =>
    (F_law22_fixed () ()).bind fun r19 =>
    cond (!r19.fst)
    (K (false, ()))
    (K (false, ())))
   (fun u18 =>
    (F_law22_fixed () ()).bind fun r20 =>
    cond (!r20.fst)
    (K (false, ()))
    (K (false, ()))) (u2)) (r1)
noncomputable def F_law22_StoreSettles : A_law22_StoreSettles → M_law22_StoreSettles → Option O_law22_StoreSettles := fun a b => tree_law22_StoreSettles F_law22_made F_law22_fixed F_store_Store_Reset F_store_Store_Trust F_store_Store_Intend F_ref22_Text F_ref09_Frame F_store_Store_Settle a.1.1 a.1.2.1 a.1.2.2.1 a.2.1 some
theorem n_law22_StoreSettles (F_law22_made : A_law22_made → M_law22_made → Option O_law22_made) (F_law22_fixed : A_law22_fixed → M_law22_fixed → Option O_law22_fixed) (F_store_Store_Reset : A_store_Store_Reset → M_store_Store_Reset → Option O_store_Store_Reset) (F_store_Store_Trust : A_store_Store_Trust → M_store_Store_Trust → Option O_store_Store_Trust) (F_store_Store_Intend : A_store_Store_Intend → M_store_Store_Intend → Option O_store_Store_Intend) (F_ref22_Text : A_ref22_Text → M_ref22_Text → Option O_ref22_Text) (F_ref09_Frame : A_ref09_Frame → M_ref09_Frame → Option O_ref09_Frame) (F_store_Store_Settle : A_store_Store_Settle → M_store_Store_Settle → Option O_store_Store_Settle) (x1 : Int) (x2 : Int) (x3 : Int) (x4 : ByteArray) {α : Type} (K : O_law22_StoreSettles → Option α) : tree_law22_StoreSettles F_law22_made F_law22_fixed F_store_Store_Reset F_store_Store_Trust F_store_Store_Intend F_ref22_Text F_ref09_Frame F_store_Store_Settle x1 x2 x3 x4 K = (tree_law22_StoreSettles F_law22_made F_law22_fixed F_store_Store_Reset F_store_Store_Trust F_store_Store_Intend F_ref22_Text F_ref09_Frame F_store_Store_Settle x1 x2 x3 x4 some).bind K := by simp only [tree_law22_StoreSettles, bind_cond, bind_none', bind_some', bind_bind', bind_sum]
theorem Fe_law22_StoreSettles (x1 : Int) (x2 : Int) (x3 : Int) (x4 : ByteArray) : F_law22_StoreSettles ((x1, (x2, (x3, ()))), (x4, ())) () = tree_law22_StoreSettles F_law22_made F_law22_fixed F_store_Store_Reset F_store_Store_Trust F_store_Store_Intend F_ref22_Text F_ref09_Frame F_store_Store_Settle x1 x2 x3 x4 some := rfl

end Go.Proofs.Ytlfedmjjjbhnpaa.S2
