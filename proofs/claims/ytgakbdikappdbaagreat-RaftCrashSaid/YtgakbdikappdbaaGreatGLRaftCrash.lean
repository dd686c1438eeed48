/- Plain forms of the program's functions, by program. -/
import Derived.Test.YtgakbdikappdbaaGreatGfix
import Derived.Test.YtgakbdikappdbaaGreatGmay
import Derived.Test.YtgakbdikappdbaaGreatGouts
import Derived.Test.YtgakbdikappdbaaGreatGrecv
set_option maxRecDepth 100000
set_option maxHeartbeats 0
set_option linter.unusedVariables false
set_option linter.unusedSimpArgs false
namespace Go.Proofs.YtgakbdikappdbaaGreat.S2
open Go
def args_law18_RaftCrash : SkL := (.cons (.agg (.cons (.leaf (.int .u64)) (.cons (.leaf (.slc 22 (.cons (.int .u64) .nil))) (.cons (.leaf (.int .u64)) (.cons (.leaf (.int .u64)) (.cons (.leaf (.int .u64)) (.cons (.leaf (.int .u64)) (.cons (.leaf (.slc 75 (.cons (.int .u64) (.cons (.int .i64) (.cons .str .nil))))) (.cons (.leaf .str) (.cons (.leaf (.int .i64)) (.cons (.leaf (.int .u64)) (.cons (.leaf (.int .u64)) (.cons (.leaf (.slc 22 (.cons (.int .u64) .nil))) (.cons (.leaf (.slc 54 (.cons (.int .u64) (.cons (.int .u64) (.cons (.int .u64) .nil))))) (.cons (.leaf (.int .i64)) .nil))))))))))))))) (.cons (.agg (.cons (.leaf (.int .i64)) (.cons (.leaf (.slc 22 (.cons (.int .u64) .nil))) (.cons (.leaf (.slc 9 (.cons .str .nil))) .nil)))) .nil))
def mem_law18_RaftCrash : MSk := []
def outs_law18_RaftCrash : List OutC := [⟨(.leaf .bool), []⟩]
abbrev A_law18_RaftCrash : Type := ((Int × List Int × Int × Int × Int × Int × (List (Int × Int × ByteArray)) × ByteArray × Int × Int × Int × List Int × (List (Int × Int × Int)) × Int × Unit) × (Int × List Int × List ByteArray × Unit) × Unit)
abbrev M_law18_RaftCrash : Type := Unit
abbrev O_law18_RaftCrash : Type := Bool × Unit
def tree_law18_RaftCrash (F_law18_fixed : A_law18_fixed → M_law18_fixed → Option O_law18_fixed) (F_ref18_May : A_ref18_May → M_ref18_May → Option O_ref18_May) (F_raft_Restart : A_raft_Restart → M_raft_Restart → Option O_raft_Restart) (F_ref01_Nums : A_ref01_Nums → M_ref01_Nums → Option O_ref01_Nums) (F_ref15_Is : A_ref15_Is → M_ref15_Is → Option O_ref15_Is) (F_ref18_Is : A_ref18_Is → M_ref18_Is → Option O_ref18_Is) (F_raft_Receive : A_raft_Receive → M_raft_Receive → Option O_raft_Receive) (F_ref18_Outs : A_ref18_Outs → M_ref18_Outs → Option O_ref18_Outs) {α : Type} (x1 : Int) (x2 : List Int) (x3 : Int) (x4 : Int) (x5 : Int) (x6 : Int) (x7 : List (Int × Int × ByteArray)) (x8 : ByteArray) (x9 : Int) (x10 : Int) (x11 : Int) (x12 : List Int) (x13 : List (Int × Int × Int)) (x14 : Int) (x15 : Int) (x16 : List Int) (x17 : List ByteArray) (K : O_law18_RaftCrash → Option α) : Option α :=
  (F_law18_fixed () ()).bind fun r1 =>
  (F_ref18_May ((x1, x2, x3, x4, x5, x6, x7, x8, x9, x10, x11, x12, x13, x14, ()), ()) ()).bind fun r2 =>
  cond (!r2.fst)
  ((F_law18_fixed () ()).bind fun r3 =>
   K (true, ()))
  ((F_raft_Restart ((x1, x2, x3, x4, x5, x6, x7, x8, x9, x10, x11, x12, x13, x14, ()), ()) ()).bind fun r4 =>
   cond (r4.fst.fst == x1)
   ((F_ref01_Nums (r4.fst.snd.fst, x2, ()) ()).bind fun r5 =>
    cond (r5.fst)
    (cond (Bool.false ^^ r4.fst.snd.snd.fst == x3 && (r4.fst.snd.snd.snd.fst == x4 && Bool.true))
     ((F_ref15_Is   ((r4.fst.snd.snd.snd.snd.fst, r4.fst.snd.snd.snd.snd.snd.fst, r4.fst.snd.snd.snd.snd.snd.snd.fst, ()),     (x5, x6, x7, ()), ())   ()).bind fun r6 =>
      cond (r6.fst)
      (cond (r4.fst.snd.snd.snd.snd.snd.snd.snd.snd.fst == 0)
       (cond (r4.fst.snd.snd.snd.snd.snd.snd.snd.snd.snd.fst == 0)
        (cond (r4.fst.snd.snd.snd.snd.snd.snd.snd.snd.snd.snd.fst == x5)
         (cond ((↑r4.fst.snd.snd.snd.snd.snd.snd.snd.snd.snd.snd.snd.fst.length : Int) == 0)
          (cond ((↑r4.fst.snd.snd.snd.snd.snd.snd.snd.snd.snd.snd.snd.snd.fst.length : Int) == 0)
           (cond (!r4.fst.snd.snd.snd.snd.snd.snd.snd.fst.toList == x8.toList)
            (K (false, ()))
            (cond (!r4.fst.snd.snd.snd.snd.snd.snd.snd.snd.snd.snd.snd.snd.snd.fst == 0)
             (K (false, ()))
             ((F_raft_Restart   ((r4.fst.fst, r4.fst.snd.fst, r4.fst.snd.snd.fst, r4.fst.snd.snd.snd.fst, r4.fst.snd.snd.snd.snd.fst,       r4.fst.snd.snd.snd.snd.snd.fst, r4.fst.snd.snd.snd.snd.snd.snd.fst, r4.fst.snd.snd.snd.snd.snd.snd.snd.fst,       r4.fst.snd.snd.snd.snd.snd.snd.snd.snd.fst, r4.fst.snd.snd.snd.snd.snd.snd.snd.snd.snd.fst,       r4.fst.snd.snd.snd.snd.snd.snd.snd.snd.snd.snd.fst, r4.fst.snd.snd.snd.snd.snd.snd.snd.snd.snd.snd.snd.fst,       r4.fst.snd.snd.snd.snd.snd.snd.snd.snd.snd.snd.snd.snd.fst,       r4.fst.snd.snd.snd.snd.snd.snd.snd.snd.snd.snd.snd.snd.snd.fst, ()),     ())   ()).bind fun r7 =>
              (F_ref18_Is   ((r7.fst.fst, r7.fst.snd.fst, r7.fst.snd.snd.fst, r7.fst.snd.snd.snd.fst, r7.fst.snd.snd.snd.snd.fst,       r7.fst.snd.snd.snd.snd.snd.fst, r7.fst.snd.snd.snd.snd.snd.snd.fst, r7.fst.snd.snd.snd.snd.snd.snd.snd.fst,       r7.fst.snd.snd.snd.snd.snd.snd.snd.snd.fst, r7.fst.snd.snd.snd.snd.snd.snd.snd.snd.snd.fst,       r7.fst.snd.snd.snd.snd.snd.snd.snd.snd.snd.snd.fst, r7.fst.snd.snd.snd.snd.snd.snd.snd.snd.snd.snd.snd.fst,       r7.fst.snd.snd.snd.snd.snd.snd.snd.snd.snd.snd.snd.snd.fst,       r7.fst.snd.snd.snd.snd.snd.snd.snd.snd.snd.snd.snd.snd.snd.fst, ()),     (r4.fst.fst, r4.fst.snd.fst, r4.fst.snd.snd.fst, r4.fst.snd.snd.snd.fst, r4.fst.snd.snd.snd.snd.fst,       r4.fst.snd.snd.snd.snd.snd.fst, r4.fst.snd.snd.snd.snd.snd.snd.fst, r4.fst.snd.snd.snd.snd.snd.snd.snd.fst,       r4.fst.snd.snd.snd.snd.snd.snd.snd.snd.fst, r4.fst.snd.snd.snd.snd.snd.snd.snd.snd.snd.fst,       r4.fst.snd.snd.snd.snd.snd.snd.snd.snd.snd.snd.fst, r4.fst.snd.snd.snd.snd.snd.snd.snd.snd.snd.snd.snd.fst,       r4.fst.snd.snd.snd.snd.snd.snd.snd.snd.snd.snd.snd.snd.fst,       r4.fst.snd.snd.snd.snd.snd.snd.snd.snd.snd.snd.snd.snd.snd.fst, ()),     ())   ()).bind fun r8 =>
              cond (!r8.fst)
              (K (false, ()))
              (cond (x15 != 0)
               (K (true, ()))
               ((F_raft_Receive   ((x1, x2, x3, x4, x5, x6, x7, x8, x9, x10, x11, x12, x13, x14, ()), (x15, x16, x17, ()), 3, ()) ()).bind fun r9 =>
                (F_raft_Receive   ((r4.fst.fst, r4.fst.snd.fst, r4.fst.snd.snd.fst, r4.fst.snd.snd.snd.fst, r4.fst.snd.snd.snd.snd.fst,       r4.fst.snd.snd.snd.snd.snd.fst, r4.fst.snd.snd.snd.snd.snd.snd.fst, r4.fst.snd.snd.snd.snd.snd.snd.snd.fst,       r4.fst.snd.snd.snd.snd.snd.snd.snd.snd.fst, r4.fst.snd.snd.snd.snd.snd.snd.snd.snd.snd.fst,       r4.fst.snd.snd.snd.snd.snd.snd.snd.snd.snd.snd.fst, r4.fst.snd.snd.snd.snd.snd.snd.snd.snd.snd.snd.snd.fst,       r4.fst.snd.snd.snd.snd.snd.snd.snd.snd.snd.snd.snd.snd.fst,       r4.fst.snd.snd.snd.snd.snd.snd.snd.snd.snd.snd.snd.snd.snd.fst, ()),     (x15, x16, x17, ()), 3, ())   ()).bind fun r10 =>
                cond (Bool.false ^^   r9.fst.fst.snd.snd.fst == r10.fst.fst.snd.snd.fst &&     (r9.fst.fst.snd.snd.snd.fst == r10.fst.fst.snd.snd.snd.fst && Bool.true))
                ((F_ref18_Outs (r9.fst.snd.fst, r10.fst.snd.fst, ()) ()).bind fun r11 =>
                 K (r11.fst, ()))
                (K (false, ())))))))
           (cond (!r4.fst.snd.snd.snd.snd.snd.snd.snd.fst.toList == x8.toList)
            (K (false, ()))
            (K (false, ()))))
          (cond (!r4.fst.snd.snd.snd.snd.snd.snd.snd.fst.toList == x8.toList)
           (K (false, ()))
           (K (false, ()))))
         (cond (!r4.fst.snd.snd.snd.snd.snd.snd.snd.fst.toList == x8.toList)
          (K (false, ()))
          (K (false, ()))))
        (cond (!r4.fst.snd.snd.snd.snd.snd.snd.snd.fst.toList == x8.toList)
         (K (false, ()))
         (K (false, ()))))
       (cond (!r4.fst.snd.snd.snd.snd.snd.snd.snd.fst.toList == x8.toList)
        (K (false, ()))
        (K (false, ()))))
      (cond (r4.fst.snd.snd.snd.snd.snd.snd.snd.snd.fst == 0)
       (cond (r4.fst.snd.snd.snd.snd.snd.snd.snd.snd.snd.fst == 0)
        (cond (r4.fst.snd.snd.snd.snd.snd.snd.snd.snd.snd.snd.fst == x5)
         (cond ((↑r4.fst.snd.snd.snd.snd.snd.snd.snd.snd.snd.snd.snd.fst.length : Int) == 0)
          (cond ((↑r4.fst.snd.snd.snd.snd.snd.snd.snd.snd.snd.snd.snd.snd.fst.length : Int) == 0)
           (K (false, ()))
           (K (false, ())))
          (K (false, ())))
         (K (false, ())))
        (K (false, ())))
       (K (false, ()))))
     (cond (r4.fst.snd.snd.snd.snd.snd.snd.snd.snd.fst == 0)
      (cond (r4.fst.snd.snd.snd.snd.snd.snd.snd.snd.snd.fst == 0)
       (cond (r4.fst.snd.snd.snd.snd.snd.snd.snd.snd.snd.snd.fst == x5)
        (cond ((↑r4.fst.snd.snd.snd.snd.snd.snd.snd.snd.snd.snd.snd.fst.length : Int) == 0)
         (cond ((↑r4.fst.snd.snd.snd.snd.snd.snd.snd.snd.snd.snd.snd.snd.fst.length : Int) == 0)
          (K (false, ()))
          (K (false, ())))
         (K (false, ())))
        (K (false, ())))
       (K (false, ())))
      (K (false, ()))))
    (cond (r4.fst.snd.snd.snd.snd.snd.snd.snd.snd.fst == 0)
     (cond (r4.fst.snd.snd.snd.snd.snd.snd.snd.snd.snd.fst == 0)
      (cond (r4.fst.snd.snd.snd.snd.snd.snd.snd.snd.snd.snd.fst == x5)
       (cond ((↑r4.fst.snd.snd.snd.snd.snd.snd.snd.snd.snd.snd.snd.fst.length : Int) == 0)
        (cond ((↑r4.fst.snd.snd.snd.snd.snd.snd.snd.snd.snd.snd.snd.snd.fst.length : Int) == 0)
         (K (false, ()))
         (K (false, ())))
        (K (false, ())))
       (K (false, ())))
      (K (false, ())))
     (K (false, ()))))
   (cond (r4.fst.snd.snd.snd.snd.snd.snd.snd.snd.fst == 0)
    (cond (r4.fst.snd.snd.snd.snd.snd.snd.snd.snd.snd.fst == 0)
     (cond (r4.fst.snd.snd.snd.snd.snd.snd.snd.snd.snd.snd.fst == x5)
      (cond ((↑r4.fst.snd.snd.snd.snd.snd.snd.snd.snd.snd.snd.snd.fst.length : Int) == 0)
       (cond ((↑r4.fst.snd.snd.snd.snd.snd.snd.snd.snd.snd.snd.snd.snd.fst.length : Int) == 0)
        (K (false, ()))
        (K (false, ())))
       (K (false, ())))
      (K (false, ())))
     (K (false, ())))
    (K (false, ()))))
noncomputable def F_law18_RaftCrash : A_law18_RaftCrash → M_law18_RaftCrash → Option O_law18_RaftCrash := fun a b => tree_law18_RaftCrash F_law18_fixed F_ref18_May F_raft_Restart F_ref01_Nums F_ref15_Is F_ref18_Is F_raft_Receive F_ref18_Outs a.1.1 a.1.2.1 a.1.2.2.1 a.1.2.2.2.1 a.1.2.2.2.2.1 a.1.2.2.2.2.2.1 a.1.2.2.2.2.2.2.1 a.1.2.2.2.2.2.2.2.1 a.1.2.2.2.2.2.2.2.2.1 a.1.2.2.2.2.2.2.2.2.2.1 a.1.2.2.2.2.2.2.2.2.2.2.1 a.1.2.2.2.2.2.2.2.2.2.2.2.1 a.1.2.2.2.2.2.2.2.2.2.2.2.2.1 a.1.2.2.2.2.2.2.2.2.2.2.2.2.2.1 a.2.1.1 a.2.1.2.1 a.2.1.2.2.1 some
theorem n_law18_RaftCrash (F_law18_fixed : A_law18_fixed → M_law18_fixed → Option O_law18_fixed) (F_ref18_May : A_ref18_May → M_ref18_May → Option O_ref18_May) (F_raft_Restart : A_raft_Restart → M_raft_Restart → Option O_raft_Restart) (F_ref01_Nums : A_ref01_Nums → M_ref01_Nums → Option O_ref01_Nums) (F_ref15_Is : A_ref15_Is → M_ref15_Is → Option O_ref15_Is) (F_ref18_Is : A_ref18_Is → M_ref18_Is → Option O_ref18_Is) (F_raft_Receive : A_raft_Receive → M_raft_Receive → Option O_raft_Receive) (F_ref18_Outs : A_ref18_Outs → M_ref18_Outs → Option O_ref18_Outs) (x1 : Int) (x2 : List Int) (x3 : Int) (x4 : Int) (x5 : Int) (x6 : Int) (x7 : List (Int × Int × ByteArray)) (x8 : ByteArray) (x9 : Int) (x10 : Int) (x11 : Int) (x12 : List Int) (x13 : List (Int × Int × Int)) (x14 : Int) (x15 : Int) (x16 : List Int) (x17 : List ByteArray) {α : Type} (K : O_law18_RaftCrash → Option α) : tree_law18_RaftCrash F_law18_fixed F_ref18_May F_raft_Restart F_ref01_Nums F_ref15_Is F_ref18_Is F_raft_Receive F_ref18_Outs x1 x2 x3 x4 x5 x6 x7 x8 x9 x10 x11 x12 x13 x14 x15 x16 x17 K = (tree_law18_RaftCrash F_law18_fixed F_ref18_May F_raft_Restart F_ref01_Nums F_ref15_Is F_ref18_Is F_raft_Receive F_ref18_Outs x1 x2 x3 x4 x5 x6 x7 x8 x9 x10 x11 x12 x13 x14 x15 x16 x17 some).bind K := by simp only [tree_law18_RaftCrash, bind_cond, bind_none', bind_some', bind_bind', bind_sum]
theorem Fe_law18_RaftCrash (x1 : Int) (x2 : List Int) (x3 : Int) (x4 : Int) (x5 : Int) (x6 : Int) (x7 : List (Int × Int × ByteArray)) (x8 : ByteArray) (x9 : Int) (x10 : Int) (x11 : Int) (x12 : List Int) (x13 : List (Int × Int × Int)) (x14 : Int) (x15 : Int) (x16 : List Int) (x17 : List ByteArray) : F_law18_RaftCrash ((x1, (x2, (x3, (x4, (x5, (x6, (x7, (x8, (x9, (x10, (x11, (x12, (x13, (x14, ())))))))))))))), ((x15, (x16, (x17, ()))), ())) () = tree_law18_RaftCrash F_law18_fixed F_ref18_May F_raft_Restart F_ref01_Nums F_ref15_Is F_ref18_Is F_raft_Receive F_ref18_Outs x1 x2 x3 x4 x5 x6 x7 x8 x9 x10 x11 x12 x13 x14 x15 x16 x17 some := rfl
end Go.Proofs.YtgakbdikappdbaaGreat.S2
