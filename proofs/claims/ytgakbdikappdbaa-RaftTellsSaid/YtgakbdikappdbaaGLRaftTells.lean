/- Plain forms of the program's functions, by program. -/
import Derived.Test.YtgakbdikappdbaaGfix
import Derived.Test.YtgakbdikappdbaaGmay
import Derived.Test.YtgakbdikappdbaaGis
import Derived.Test.YtgakbdikappdbaaGmemb
import Derived.Test.YtgakbdikappdbaaGstart
set_option maxRecDepth 100000
set_option maxHeartbeats 0
set_option linter.unusedVariables false
set_option linter.unusedSimpArgs false
namespace Go.Proofs.Ytgakbdikappdbaa.S2
open Go
def args_law18_RaftTells : SkL := (.cons (.agg (.cons (.leaf (.int .u64)) (.cons (.leaf (.slc 22 (.cons (.int .u64) .nil))) (.cons (.leaf (.int .u64)) (.cons (.leaf (.int .u64)) (.cons (.leaf (.int .u64)) (.cons (.leaf (.int .u64)) (.cons (.leaf (.slc 52 (.cons (.int .u64) (.cons (.int .i64) (.cons .str .nil))))) (.cons (.leaf .str) (.cons (.leaf (.int .i64)) (.cons (.leaf (.int .u64)) (.cons (.leaf (.int .u64)) (.cons (.leaf (.slc 22 (.cons (.int .u64) .nil))) (.cons (.leaf (.slc 58 (.cons (.int .u64) (.cons (.int .u64) (.cons (.int .u64) .nil))))) (.cons (.leaf (.int .i64)) .nil))))))))))))))) (.cons (.leaf (.int .u64)) .nil))
def mem_law18_RaftTells : MSk := []
def outs_law18_RaftTells : List OutC := [⟨(.leaf .bool), []⟩]
abbrev A_law18_RaftTells : Type := ((Int × List Int × Int × Int × Int × Int × (List (Int × Int × ByteArray)) × ByteArray × Int × Int × Int × List Int × (List (Int × Int × Int)) × Int × Unit) × Int × Unit)
abbrev M_law18_RaftTells : Type := Unit
abbrev O_law18_RaftTells : Type := Bool × Unit
def tree_law18_RaftTells (F_law18_fixed : A_law18_fixed → M_law18_fixed → Option O_law18_fixed) (F_ref18_May : A_ref18_May → M_ref18_May → Option O_ref18_May) (F_raft_Members : A_raft_Members → M_raft_Members → Option O_raft_Members) (F_ref18_Members : A_ref18_Members → M_ref18_Members → Option O_ref18_Members) (F_ref01_Nums : A_ref01_Nums → M_ref01_Nums → Option O_ref01_Nums) (F_raft_Start : A_raft_Start → M_raft_Start → Option O_raft_Start) (F_ref18_Start : A_ref18_Start → M_ref18_Start → Option O_ref18_Start) (F_ref18_Is : A_ref18_Is → M_ref18_Is → Option O_ref18_Is) {α : Type} (x1 : Int) (x2 : List Int) (x3 : Int) (x4 : Int) (x5 : Int) (x6 : Int) (x7 : List (Int × Int × ByteArray)) (x8 : ByteArray) (x9 : Int) (x10 : Int) (x11 : Int) (x12 : List Int) (x13 : List (Int × Int × Int)) (x14 : Int) (x15 : Int) (K : O_law18_RaftTells → Option α) : Option α :=
  (F_law18_fixed () ()).bind fun r1 =>
  (F_ref18_May ((x1, x2, x3, x4, x5, x6, x7, x8, x9, x10, x11, x12, x13, x14, ()), ()) ()).bind fun r2 =>
  cond (!r2.fst)
  ((F_law18_fixed () ()).bind fun r3 =>
   K (true, ()))
  ((F_raft_Members ((x1, x2, x3, x4, x5, x6, x7, x8, x9, x10, x11, x12, x13, x14, ()), x15, ()) ()).bind fun r4 =>
   (F_ref18_Members ((x1, x2, x3, x4, x5, x6, x7, x8, x9, x10, x11, x12, x13, x14, ()), x15, ()) ()).bind fun r5 =>
   (F_ref01_Nums (r4.fst, r5.fst, ()) ()).bind fun r6 =>
   cond (r6.fst)
   ((F_raft_Start (x15, x2, ()) ()).bind fun r7 =>
    (F_ref18_Start (x15, x2, ()) ()).bind fun r8 =>
    (F_ref18_Is   ((r7.fst.fst, r7.fst.snd.fst, r7.fst.snd.snd.fst, r7.fst.snd.snd.snd.fst, r7.fst.snd.snd.snd.snd.fst,       r7.fst.snd.snd.snd.snd.snd.fst, r7.fst.snd.snd.snd.snd.snd.snd.fst, r7.fst.snd.snd.snd.snd.snd.snd.snd.fst,       r7.fst.snd.snd.snd.snd.snd.snd.snd.snd.fst, r7.fst.snd.snd.snd.snd.snd.snd.snd.snd.snd.fst,       r7.fst.snd.snd.snd.snd.snd.snd.snd.snd.snd.snd.fst, r7.fst.snd.snd.snd.snd.snd.snd.snd.snd.snd.snd.snd.fst,       r7.fst.snd.snd.snd.snd.snd.snd.snd.snd.snd.snd.snd.snd.fst,       r7.fst.snd.snd.snd.snd.snd.snd.snd.snd.snd.snd.snd.snd.snd.fst, ()),     (r8.fst.fst, r8.fst.snd.fst, r8.fst.snd.snd.fst, r8.fst.snd.snd.snd.fst, r8.fst.snd.snd.snd.snd.fst,       r8.fst.snd.snd.snd.snd.snd.fst, r8.fst.snd.snd.snd.snd.snd.snd.fst, r8.fst.snd.snd.snd.snd.snd.snd.snd.fst,       r8.fst.snd.snd.snd.snd.snd.snd.snd.snd.fst, r8.fst.snd.snd.snd.snd.snd.snd.snd.snd.snd.fst,       r8.fst.snd.snd.snd.snd.snd.snd.snd.snd.snd.snd.fst, r8.fst.snd.snd.snd.snd.snd.snd.snd.snd.snd.snd.snd.fst,       r8.fst.snd.snd.snd.snd.snd.snd.snd.snd.snd.snd.snd.snd.fst,       r8.fst.snd.snd.snd.snd.snd.snd.snd.snd.snd.snd.snd.snd.snd.fst, ()),     ())   ()).bind fun r9 =>
    K (r9.fst, ()))
   (K (false, ())))
noncomputable def F_law18_RaftTells : A_law18_RaftTells → M_law18_RaftTells → Option O_law18_RaftTells := fun a b => tree_law18_RaftTells F_law18_fixed F_ref18_May F_raft_Members F_ref18_Members F_ref01_Nums F_raft_Start F_ref18_Start F_ref18_Is a.1.1 a.1.2.1 a.1.2.2.1 a.1.2.2.2.1 a.1.2.2.2.2.1 a.1.2.2.2.2.2.1 a.1.2.2.2.2.2.2.1 a.1.2.2.2.2.2.2.2.1 a.1.2.2.2.2.2.2.2.2.1 a.1.2.2.2.2.2.2.2.2.2.1 a.1.2.2.2.2.2.2.2.2.2.2.1 a.1.2.2.2.2.2.2.2.2.2.2.2.1 a.1.2.2.2.2.2.2.2.2.2.2.2.2.1 a.1.2.2.2.2.2.2.2.2.2.2.2.2.2.1 a.2.1 some
theorem n_law18_RaftTells (F_law18_fixed : A_law18_fixed → M_law18_fixed → Option O_law18_fixed) (F_ref18_May : A_ref18_May → M_ref18_May → Option O_ref18_May) (F_raft_Members : A_raft_Members → M_raft_Members → Option O_raft_Members) (F_ref18_Members : A_ref18_Members → M_ref18_Members → Option O_ref18_Members) (F_ref01_Nums : A_ref01_Nums → M_ref01_Nums → Option O_ref01_Nums) (F_raft_Start : A_raft_Start → M_raft_Start → Option O_raft_Start) (F_ref18_Start : A_ref18_Start → M_ref18_Start → Option O_ref18_Start) (F_ref18_Is : A_ref18_Is → M_ref18_Is → Option O_ref18_Is) (x1 : Int) (x2 : List Int) (x3 : Int) (x4 : Int) (x5 : Int) (x6 : Int) (x7 : List (Int × Int × ByteArray)) (x8 : ByteArray) (x9 : Int) (x10 : Int) (x11 : Int) (x12 : List Int) (x13 : List (Int × Int × Int)) (x14 : Int) (x15 : Int) {α : Type} (K : O_law18_RaftTells → Option α) : tree_law18_RaftTells F_law18_fixed F_ref18_May F_raft_Members F_ref18_Members F_ref01_Nums F_raft_Start F_ref18_Start F_ref18_Is x1 x2 x3 x4 x5 x6 x7 x8 x9 x10 x11 x12 x13 x14 x15 K = (tree_law18_RaftTells F_law18_fixed F_ref18_May F_raft_Members F_ref18_Members F_ref01_Nums F_raft_Start F_ref18_Start F_ref18_Is x1 x2 x3 x4 x5 x6 x7 x8 x9 x10 x11 x12 x13 x14 x15 some).bind K := by simp only [tree_law18_RaftTells, bind_cond, bind_none', bind_some', bind_bind', bind_sum]
theorem Fe_law18_RaftTells (x1 : Int) (x2 : List Int) (x3 : Int) (x4 : Int) (x5 : Int) (x6 : Int) (x7 : List (Int × Int × ByteArray)) (x8 : ByteArray) (x9 : Int) (x10 : Int) (x11 : Int) (x12 : List Int) (x13 : List (Int × Int × Int)) (x14 : Int) (x15 : Int) : F_law18_RaftTells ((x1, (x2, (x3, (x4, (x5, (x6, (x7, (x8, (x9, (x10, (x11, (x12, (x13, (x14, ())))))))))))))), (x15, ())) () = tree_law18_RaftTells F_law18_fixed F_ref18_May F_raft_Members F_ref18_Members F_ref01_Nums F_raft_Start F_ref18_Start F_ref18_Is x1 x2 x3 x4 x5 x6 x7 x8 x9 x10 x11 x12 x13 x14 x15 some := rfl
end Go.Proofs.Ytgakbdikappdbaa.S2
