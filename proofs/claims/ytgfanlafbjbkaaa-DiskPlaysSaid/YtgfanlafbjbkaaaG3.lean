/- Plain forms of the program's functions, by program. -/
import Derived.Test.YtgfanlafbjbkaaaG2
set_option maxRecDepth 100000
set_option maxHeartbeats 0
set_option linter.unusedVariables false
set_option linter.unusedSimpArgs false
namespace Go.Proofs.Ytgfanlafbjbkaaa.S2
open Go
/-! countersign/countersignlaw08.DiskTorn -/
def args_law08_DiskTorn : SkL := (.cons (.agg (.cons (.leaf (.int .i64)) (.cons (.leaf (.int .i64)) (.cons (.leaf (.slc 36 (.cons (.int .i64) (.cons (.int .i64) (.cons .str (.cons (.slc 3 (.cons (.int .i64) .nil)) .nil)))))) .nil)))) (.cons (.agg (.cons (.leaf (.int .i64)) (.cons (.leaf .str) (.cons (.leaf (.int .i64)) .nil)))) .nil))
def mem_law08_DiskTorn : MSk := []
def outs_law08_DiskTorn : List OutC := [⟨(.leaf .bool), []⟩]
abbrev A_law08_DiskTorn : Type := ((Int × Int × (List (Int × Int × ByteArray × List Int)) × Unit) × (Int × ByteArray × Int × Unit) × Unit)
abbrev M_law08_DiskTorn : Type := Unit
abbrev O_law08_DiskTorn : Type := Bool × Unit
def tree_law08_DiskTorn (F_law08_made : A_law08_made → M_law08_made → Option O_law08_made) (F_law08_fixed : A_law08_fixed → M_law08_fixed → Option O_law08_fixed) (F_disk_Disk_Flush : A_disk_Disk_Flush → M_disk_Disk_Flush → Option O_disk_Disk_Flush) (F_disk_Disk_Safe : A_disk_Disk_Safe → M_disk_Disk_Safe → Option O_disk_Disk_Safe) (F_disk_Disk_Write : A_disk_Disk_Write → M_disk_Disk_Write → Option O_disk_Disk_Write) (F_disk_Disk_Crash : A_disk_Disk_Crash → M_disk_Disk_Crash → Option O_disk_Disk_Crash) (F_disk_Disk_Read : A_disk_Disk_Read → M_disk_Disk_Read → Option O_disk_Disk_Read) (F_ref08_Zeros : A_ref08_Zeros → M_ref08_Zeros → Option O_ref08_Zeros) {α : Type} (x1 : Int) (x2 : Int) (x3 : List (Int × Int × ByteArray × List Int)) (x4 : Int) (x5 : ByteArray) (x6 : Int) (K : O_law08_DiskTorn → Option α) : Option α :=
  (F_law08_made ((x1, x2, x3, ()), ()) ()).bind fun r1 =>
  Sum.elim (fun u2 =>
   (F_law08_fixed () ()).bind fun r3 =>
   cond (!r3.fst)
   ((F_law08_fixed () ()).bind fun r4 =>
    K (r4.fst, ()))
   ((F_law08_fixed () ()).bind fun r5 =>
    K (r5.fst, ())))
  (fun u2 =>
   (F_law08_fixed () ()).bind fun r6 =>
   cond (!r6.fst)
   ((F_law08_fixed () ()).bind fun r7 =>
    K (r7.fst, ()))
   ((F_disk_Disk_Flush () ((u2.snd.fst.fst, ()), u2.snd.snd.fst, u2.snd.snd.snd.fst, ())).bind fun r8 =>
    (F_disk_Disk_Safe (x4, ()) ((r8.snd.fst.fst, ()), r8.snd.snd.fst, r8.snd.snd.snd.snd.fst, ())).bind fun r9 =>
    (F_disk_Disk_Write (x4, x5, ()) ((r8.snd.fst.fst, ()), r8.snd.snd.fst, r8.snd.snd.snd.snd.fst, ())).bind fun r10 =>
    cond (r9.fst.snd.fst)
    (cond (r10.fst != decide ((↑x5.size : Int) ≤ x2))
     (cond (r9.fst.snd.fst)
      (K (r10.fst == decide ((↑x5.size : Int) ≤ x2), ()))
      (K (r10.fst == Bool.false, ())))
     (cond (!r10.fst)
      (cond (r9.fst.snd.fst)
       (K (r10.fst == decide ((↑x5.size : Int) ≤ x2), ()))
       (K (r10.fst == Bool.false, ())))
      ((F_disk_Disk_Crash ([] ++ [x6], ()) ((r10.snd.fst.fst, ()), r10.snd.snd.fst, r10.snd.snd.snd.snd.fst, ())).bind fun r11 =>
       (F_disk_Disk_Read (x4, ()) ((r11.snd.fst.fst, ()), r11.snd.snd.fst, r11.snd.snd.snd.snd.fst, ())).bind fun r12 =>
       (F_ref08_Zeros (IntKind.i64.wrap (x2 - (↑x5.size : Int)), ()) ()).bind fun r13 =>
       cond (decide (x5.size + r13.fst.size ≤ 9223372036854775807))
       (cond (decide (0 ≤ if (if x2 < x6 then x2 else x6) > 0 then if x2 < x6 then x2 else x6 else 0))
        (cond (decide   ((if (if x2 < x6 then x2 else x6) > 0 then if x2 < x6 then x2 else x6 else 0) ≤ (↑(x5 ++ r13.fst).size : Int)))
         (cond (decide (0 ≤ if (if x2 < x6 then x2 else x6) > 0 then if x2 < x6 then x2 else x6 else 0))
          (cond (decide   ((if (if x2 < x6 then x2 else x6) > 0 then if x2 < x6 then x2 else x6 else 0) ≤ (↑r9.fst.fst.size : Int)))
           (cond (decide   (((x5 ++ r13.fst).extract 0 (if (if x2 < x6 then x2 else x6) > 0 then if x2 < x6 then x2 else x6 else 0).toNat).size +       (r9.fst.fst.extract (if (if x2 < x6 then x2 else x6) > 0 then if x2 < x6 then x2 else x6 else 0).toNat           r9.fst.fst.size).size ≤     9223372036854775807))
            (K (r12.fst.fst.toList ==   ((x5 ++ r13.fst).extract 0 (if (if x2 < x6 then x2 else x6) > 0 then if x2 < x6 then x2 else x6 else 0).toNat ++       r9.fst.fst.extract (if (if x2 < x6 then x2 else x6) > 0 then if x2 < x6 then x2 else x6 else 0).toNat         r9.fst.fst.size).toList, ()))
            (none))
           (none))
          (none))
         (none))
        (none))
       (none))))
    (cond (r10.fst != Bool.false)
     (cond (r9.fst.snd.fst)
      (K (r10.fst == decide ((↑x5.size : Int) ≤ x2), ()))
      (K (r10.fst == Bool.false, ())))
     (cond (!r10.fst)
      (cond (r9.fst.snd.fst)
       (K (r10.fst == decide ((↑x5.size : Int) ≤ x2), ()))
       (K (r10.fst == Bool.false, ())))
      ((F_disk_Disk_Crash ([] ++ [x6], ()) ((r10.snd.fst.fst, ()), r10.snd.snd.fst, r10.snd.snd.snd.snd.fst, ())).bind fun r14 =>
       (F_disk_Disk_Read (x4, ()) ((r14.snd.fst.fst, ()), r14.snd.snd.fst, r14.snd.snd.snd.snd.fst, ())).bind fun r15 =>
       (F_ref08_Zeros (IntKind.i64.wrap (x2 - (↑x5.size : Int)), ()) ()).bind fun r16 =>
       cond (decide (x5.size + r16.fst.size ≤ 9223372036854775807))
       (cond (decide (0 ≤ if (if x2 < x6 then x2 else x6) > 0 then if x2 < x6 then x2 else x6 else 0))
        (cond (decide   ((if (if x2 < x6 then x2 else x6) > 0 then if x2 < x6 then x2 else x6 else 0) ≤ (↑(x5 ++ r16.fst).size : Int)))
         (cond (decide (0 ≤ if (if x2 < x6 then x2 else x6) > 0 then if x2 < x6 then x2 else x6 else 0))
          (cond (decide   ((if (if x2 < x6 then x2 else x6) > 0 then if x2 < x6 then x2 else x6 else 0) ≤ (↑r9.fst.fst.size : Int)))
           (cond (decide   (((x5 ++ r16.fst).extract 0 (if (if x2 < x6 then x2 else x6) > 0 then if x2 < x6 then x2 else x6 else 0).toNat).size +       (r9.fst.fst.extract (if (if x2 < x6 then x2 else x6) > 0 then if x2 < x6 then x2 else x6 else 0).toNat           r9.fst.fst.size).size ≤     9223372036854775807))
            (K (r15.fst.fst.toList ==   ((x5 ++ r16.fst).extract 0 (if (if x2 < x6 then x2 else x6) > 0 then if x2 < x6 then x2 else x6 else 0).toNat ++       r9.fst.fst.extract (if (if x2 < x6 then x2 else x6) > 0 then if x2 < x6 then x2 else x6 else 0).toNat         r9.fst.fst.size).toList, ()))
            (none))
           (none))
          (none))
         (none))
        (none))
       (none)))))) (r1)
noncomputable def F_law08_DiskTorn : A_law08_DiskTorn → M_law08_DiskTorn → Option O_law08_DiskTorn := fun a b => tree_law08_DiskTorn F_law08_made F_law08_fixed F_disk_Disk_Flush F_disk_Disk_Safe F_disk_Disk_Write F_disk_Disk_Crash F_disk_Disk_Read F_ref08_Zeros a.1.1 a.1.2.1 a.1.2.2.1 a.2.1.1 a.2.1.2.1 a.2.1.2.2.1 some
theorem n_law08_DiskTorn (F_law08_made : A_law08_made → M_law08_made → Option O_law08_made) (F_law08_fixed : A_law08_fixed → M_law08_fixed → Option O_law08_fixed) (F_disk_Disk_Flush : A_disk_Disk_Flush → M_disk_Disk_Flush → Option O_disk_Disk_Flush) (F_disk_Disk_Safe : A_disk_Disk_Safe → M_disk_Disk_Safe → Option O_disk_Disk_Safe) (F_disk_Disk_Write : A_disk_Disk_Write → M_disk_Disk_Write → Option O_disk_Disk_Write) (F_disk_Disk_Crash : A_disk_Disk_Crash → M_disk_Disk_Crash → Option O_disk_Disk_Crash) (F_disk_Disk_Read : A_disk_Disk_Read → M_disk_Disk_Read → Option O_disk_Disk_Read) (F_ref08_Zeros : A_ref08_Zeros → M_ref08_Zeros → Option O_ref08_Zeros) (x1 : Int) (x2 : Int) (x3 : List (Int × Int × ByteArray × List Int)) (x4 : Int) (x5 : ByteArray) (x6 : Int) {α : Type} (K : O_law08_DiskTorn → Option α) : tree_law08_DiskTorn F_law08_made F_law08_fixed F_disk_Disk_Flush F_disk_Disk_Safe F_disk_Disk_Write F_disk_Disk_Crash F_disk_Disk_Read F_ref08_Zeros x1 x2 x3 x4 x5 x6 K = (tree_law08_DiskTorn F_law08_made F_law08_fixed F_disk_Disk_Flush F_disk_Disk_Safe F_disk_Disk_Write F_disk_Disk_Crash F_disk_Disk_Read F_ref08_Zeros x1 x2 x3 x4 x5 x6 some).bind K := by simp only [tree_law08_DiskTorn, bind_cond, bind_none', bind_some', bind_bind', bind_sum]
theorem Fe_law08_DiskTorn (x1 : Int) (x2 : Int) (x3 : List (Int × Int × ByteArray × List Int)) (x4 : Int) (x5 : ByteArray) (x6 : Int) : F_law08_DiskTorn ((x1, (x2, (x3, ()))), ((x4, (x5, (x6, ()))), ())) () = tree_law08_DiskTorn F_law08_made F_law08_fixed F_disk_Disk_Flush F_disk_Disk_Safe F_disk_Disk_Write F_disk_Disk_Crash F_disk_Disk_Read F_ref08_Zeros x1 x2 x3 x4 x5 x6 some := rfl

end Go.Proofs.Ytgfanlafbjbkaaa.S2
