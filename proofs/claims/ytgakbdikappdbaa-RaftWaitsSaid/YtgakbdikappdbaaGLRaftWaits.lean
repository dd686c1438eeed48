/- Plain forms of the program's functions, by program. -/
import Derived.Test.YtgakbdikappdbaaGfix
import Derived.Test.YtgakbdikappdbaaGmay
import Derived.Test.YtgakbdikappdbaaGis
import Derived.Test.YtgakbdikappdbaaGcopy
set_option maxRecDepth 100000
set_option maxHeartbeats 0
set_option linter.unusedVariables false
set_option linter.unusedSimpArgs false
namespace Go.Proofs.Ytgakbdikappdbaa.S2
open Go
def args_law18_RaftWaits : SkL := (.cons (.agg (.cons (.leaf (.int .u64)) (.cons (.leaf (.slc 22 (.cons (.int .u64) .nil))) (.cons (.leaf (.int .u64)) (.cons (.leaf (.int .u64)) (.cons (.leaf (.int .u64)) (.cons (.leaf (.int .u64)) (.cons (.leaf (.slc 52 (.cons (.int .u64) (.cons (.int .i64) (.cons .str .nil))))) (.cons (.leaf .str) (.cons (.leaf (.int .i64)) (.cons (.leaf (.int .u64)) (.cons (.leaf (.int .u64)) (.cons (.leaf (.slc 22 (.cons (.int .u64) .nil))) (.cons (.leaf (.slc 58 (.cons (.int .u64) (.cons (.int .u64) (.cons (.int .u64) .nil))))) (.cons (.leaf (.int .i64)) .nil))))))))))))))) (.cons (.leaf (.int .i64)) .nil))
def mem_law18_RaftWaits : MSk := []
def outs_law18_RaftWaits : List OutC := [⟨(.leaf .bool), []⟩]
abbrev A_law18_RaftWaits : Type := ((Int × List Int × Int × Int × Int × Int × (List (Int × Int × ByteArray)) × ByteArray × Int × Int × Int × List Int × (List (Int × Int × Int)) × Int × Unit) × Int × Unit)
abbrev M_law18_RaftWaits : Type := Unit
abbrev O_law18_RaftWaits : Type := Bool × Unit
def tree_law18_RaftWaits (F_law18_fixed : A_law18_fixed → M_law18_fixed → Option O_law18_fixed) (F_ref18_May : A_ref18_May → M_ref18_May → Option O_ref18_May) (F_raft_Tick : A_raft_Tick → M_raft_Tick → Option O_raft_Tick) (F_ref18_Copy : A_ref18_Copy → M_ref18_Copy → Option O_ref18_Copy) (F_ref18_Is : A_ref18_Is → M_ref18_Is → Option O_ref18_Is) {α : Type} (x1 : Int) (x2 : List Int) (x3 : Int) (x4 : Int) (x5 : Int) (x6 : Int) (x7 : List (Int × Int × ByteArray)) (x8 : ByteArray) (x9 : Int) (x10 : Int) (x11 : Int) (x12 : List Int) (x13 : List (Int × Int × Int)) (x14 : Int) (x15 : Int) (K : O_law18_RaftWaits → Option α) : Option α :=
  (F_law18_fixed () ()).bind fun r1 =>
  (F_ref18_May ((x1, x2, x3, x4, x5, x6, x7, x8, x9, x10, x11, x12, x13, x14, ()), ()) ()).bind fun r2 =>
  cond (!r2.fst)
  ((F_law18_fixed () ()).bind fun r3 =>
   K (true, ()))
  (cond (decide (x14 ≤ 1))
   ((F_law18_fixed () ()).bind fun r4 =>
    K (true, ()))
   ((F_raft_Tick ((x1, x2, x3, x4, x5, x6, x7, x8, x9, x10, x11, x12, x13, x14, ()), x15, ()) ()).bind fun r5 =>
    (F_ref18_Copy ((x1, x2, x3, x4, x5, x6, x7, x8, x9, x10, x11, x12, x13, x14, ()), ()) ()).bind fun r6 =>
    cond ((↑r5.fst.snd.fst.length : Int) == 0)
    ((F_ref18_Is   ((r5.fst.fst.fst, r5.fst.fst.snd.fst, r5.fst.fst.snd.snd.fst, r5.fst.fst.snd.snd.snd.fst,       r5.fst.fst.snd.snd.snd.snd.fst, r5.fst.fst.snd.snd.snd.snd.snd.fst, r5.fst.fst.snd.snd.snd.snd.snd.snd.fst,       r5.fst.fst.snd.snd.snd.snd.snd.snd.snd.fst, r5.fst.fst.snd.snd.snd.snd.snd.snd.snd.snd.fst,       r5.fst.fst.snd.snd.snd.snd.snd.snd.snd.snd.snd.fst, r5.fst.fst.snd.snd.snd.snd.snd.snd.snd.snd.snd.snd.fst,       r5.fst.fst.snd.snd.snd.snd.snd.snd.snd.snd.snd.snd.snd.fst,       r5.fst.fst.snd.snd.snd.snd.snd.snd.snd.snd.snd.snd.snd.snd.fst,       r5.fst.fst.snd.snd.snd.snd.snd.snd.snd.snd.snd.snd.snd.snd.snd.fst, ()),     (r6.fst.fst, r6.fst.snd.fst, r6.fst.snd.snd.fst, r6.fst.snd.snd.snd.fst, r6.fst.snd.snd.snd.snd.fst,       r6.fst.snd.snd.snd.snd.snd.fst, r6.fst.snd.snd.snd.snd.snd.snd.fst, r6.fst.snd.snd.snd.snd.snd.snd.snd.fst,       r6.fst.snd.snd.snd.snd.snd.snd.snd.snd.fst, r6.fst.snd.snd.snd.snd.snd.snd.snd.snd.snd.fst,       r6.fst.snd.snd.snd.snd.snd.snd.snd.snd.snd.snd.fst, r6.fst.snd.snd.snd.snd.snd.snd.snd.snd.snd.snd.snd.fst,       r6.fst.snd.snd.snd.snd.snd.snd.snd.snd.snd.snd.snd.snd.fst,       IntKind.i64.wrap (r6.fst.snd.snd.snd.snd.snd.snd.snd.snd.snd.snd.snd.snd.snd.fst - 1), ()),     ())   ()).bind fun r7 =>
     K (r7.fst, ()))
    (K (false, ()))))
noncomputable def F_law18_RaftWaits : A_law18_RaftWaits → M_law18_RaftWaits → Option O_law18_RaftWaits := fun a b => tree_law18_RaftWaits F_law18_fixed F_ref18_May F_raft_Tick F_ref18_Copy F_ref18_Is a.1.1 a.1.2.1 a.1.2.2.1 a.1.2.2.2.1 a.1.2.2.2.2.1 a.1.2.2.2.2.2.1 a.1.2.2.2.2.2.2.1 a.1.2.2.2.2.2.2.2.1 a.1.2.2.2.2.2.2.2.2.1 a.1.2.2.2.2.2.2.2.2.2.1 a.1.2.2.2.2.2.2.2.2.2.2.1 a.1.2.2.2.2.2.2.2.2.2.2.2.1 a.1.2.2.2.2.2.2.2.2.2.2.2.2.1 a.1.2.2.2.2.2.2.2.2.2.2.2.2.2.1 a.2.1 some
theorem n_law18_RaftWaits (F_law18_fixed : A_law18_fixed → M_law18_fixed → Option O_law18_fixed) (F_ref18_May : A_ref18_May → M_ref18_May → Option O_ref18_May) (F_raft_Tick : A_raft_Tick → M_raft_Tick → Option O_raft_Tick) (F_ref18_Copy : A_ref18_Copy → M_ref18_Copy → Option O_ref18_Copy) (F_ref18_Is : A_ref18_Is → M_ref18_Is → Option O_ref18_Is) (x1 : Int) (x2 : List Int) (x3 : Int) (x4 : Int) (x5 : Int) (x6 : Int) (x7 : List (Int × Int × ByteArray)) (x8 : ByteArray) (x9 : Int) (x10 : Int) (x11 : Int) (x12 : List Int) (x13 : List (Int × Int × Int)) (x14 : Int) (x15 : Int) {α : Type} (K : O_law18_RaftWaits → Option α) : tree_law18_RaftWaits F_law18_fixed F_ref18_May F_raft_Tick F_ref18_Copy F_ref18_Is x1 x2 x3 x4 x5 x6 x7 x8 x9 x10 x11 x12 x13 x14 x15 K = (tree_law18_RaftWaits F_law18_fixed F_ref18_May F_raft_Tick F_ref18_Copy F_ref18_Is x1 x2 x3 x4 x5 x6 x7 x8 x9 x10 x11 x12 x13 x14 x15 some).bind K := by simp only [tree_law18_RaftWaits, bind_cond, bind_none', bind_some', bind_bind', bind_sum]
theorem Fe_law18_RaftWaits (x1 : Int) (x2 : List Int) (x3 : Int) (x4 : Int) (x5 : Int) (x6 : Int) (x7 : List (Int × Int × ByteArray)) (x8 : ByteArray) (x9 : Int) (x10 : Int) (x11 : Int) (x12 : List Int) (x13 : List (Int × Int × Int)) (x14 : Int) (x15 : Int) : F_law18_RaftWaits ((x1, (x2, (x3, (x4, (x5, (x6, (x7, (x8, (x9, (x10, (x11, (x12, (x13, (x14, ())))))))))))))), (x15, ())) () = tree_law18_RaftWaits F_law18_fixed F_ref18_May F_raft_Tick F_ref18_Copy F_ref18_Is x1 x2 x3 x4 x5 x6 x7 x8 x9 x10 x11 x12 x13 x14 x15 some := rfl
end Go.Proofs.Ytgakbdikappdbaa.S2
