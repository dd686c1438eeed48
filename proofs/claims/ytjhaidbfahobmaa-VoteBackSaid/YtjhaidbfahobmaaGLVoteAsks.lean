/- Plain forms of the program's functions, by program. -/
import Derived.Test.YtjhaidbfahobmaaGlaw16
import Derived.Test.YtjhaidbfahobmaaGrref
set_option maxRecDepth 100000
set_option maxHeartbeats 0
set_option linter.unusedVariables false
set_option linter.unusedSimpArgs false
namespace Go.Proofs.Ytjhaidbfahobmaa.S2
open Go
/-! countersign/countersignlaw16.VoteAsks -/
def args_law16_VoteAsks : SkL := (.cons (.agg (.cons (.leaf (.int .u64)) (.cons (.leaf (.int .u64)) .nil))) (.cons (.agg (.cons (.leaf (.int .u64)) (.cons (.leaf (.int .u64)) (.cons (.leaf (.slc 70 (.cons (.int .u64) (.cons (.int .i64) (.cons .str .nil))))) .nil)))) (.cons (.agg (.cons (.leaf (.int .u64)) (.cons (.leaf (.int .u64)) (.cons (.leaf (.int .u64)) (.cons (.leaf (.int .u64)) .nil))))) .nil)))
def mem_law16_VoteAsks : MSk := []
def outs_law16_VoteAsks : List OutC := [⟨(.leaf .bool), []⟩]
abbrev A_law16_VoteAsks : Type := ((Int × Int × Unit) × (Int × Int × (List (Int × Int × ByteArray)) × Unit) × (Int × Int × Int × Int × Unit) × Unit)
abbrev M_law16_VoteAsks : Type := Unit
abbrev O_law16_VoteAsks : Type := Bool × Unit
def tree_law16_VoteAsks (F_law16_fixed : A_law16_fixed → M_law16_fixed → Option O_law16_fixed) (F_ref15_May : A_ref15_May → M_ref15_May → Option O_ref15_May) (F_vote_Ask : A_vote_Ask → M_vote_Ask → Option O_vote_Ask) (F_ref16_Ask : A_ref16_Ask → M_ref16_Ask → Option O_ref16_Ask) (F_vote_Seen : A_vote_Seen → M_vote_Seen → Option O_vote_Seen) (F_ref16_Seen : A_ref16_Seen → M_ref16_Seen → Option O_ref16_Seen) {α : Type} (x1 : Int) (x2 : Int) (x3 : Int) (x4 : Int) (x5 : List (Int × Int × ByteArray)) (x6 : Int) (x7 : Int) (x8 : Int) (x9 : Int) (K : O_law16_VoteAsks → Option α) : Option α :=
  (F_law16_fixed () ()).bind fun r1 =>
  cond (!r1.fst)
  ((F_law16_fixed () ()).bind fun r2 =>
   K (r2.fst, ()))
  ((F_ref15_May ((x3, x4, x5, ()), ()) ()).bind fun r3 =>
   cond (!r3.fst)
   ((F_law16_fixed () ()).bind fun r4 =>
    K (r4.fst, ()))
   ((F_vote_Ask ((x1, x2, ()), (x3, x4, x5, ()), x6, x7, x8, x9, ()) ()).bind fun r5 =>
    (F_ref16_Ask ((x1, x2, ()), (x3, x4, x5, ()), x6, x7, x8, x9, ()) ()).bind fun r6 =>
    cond (Bool.false ^^ r5.fst.fst.fst == r6.fst.fst.fst && (r5.fst.fst.snd.fst == r6.fst.fst.snd.fst && Bool.true))
    (cond (r5.fst.snd.fst == r6.fst.snd.fst)
     ((F_vote_Seen ((x1, x2, ()), x6, ()) ()).bind fun r7 =>
      (F_ref16_Seen ((x1, x2, ()), x6, ()) ()).bind fun r8 =>
      K (Bool.false ^^ r7.fst.fst == r8.fst.fst && (r7.fst.snd.fst == r8.fst.snd.fst && Bool.true), ()))
     (K (false, ())))
    (K (false, ()))))
noncomputable def F_law16_VoteAsks : A_law16_VoteAsks → M_law16_VoteAsks → Option O_law16_VoteAsks := fun a b => tree_law16_VoteAsks F_law16_fixed F_ref15_May F_vote_Ask F_ref16_Ask F_vote_Seen F_ref16_Seen a.1.1 a.1.2.1 a.2.1.1 a.2.1.2.1 a.2.1.2.2.1 a.2.2.1.1 a.2.2.1.2.1 a.2.2.1.2.2.1 a.2.2.1.2.2.2.1 some
theorem n_law16_VoteAsks (F_law16_fixed : A_law16_fixed → M_law16_fixed → Option O_law16_fixed) (F_ref15_May : A_ref15_May → M_ref15_May → Option O_ref15_May) (F_vote_Ask : A_vote_Ask → M_vote_Ask → Option O_vote_Ask) (F_ref16_Ask : A_ref16_Ask → M_ref16_Ask → Option O_ref16_Ask) (F_vote_Seen : A_vote_Seen → M_vote_Seen → Option O_vote_Seen) (F_ref16_Seen : A_ref16_Seen → M_ref16_Seen → Option O_ref16_Seen) (x1 : Int) (x2 : Int) (x3 : Int) (x4 : Int) (x5 : List (Int × Int × ByteArray)) (x6 : Int) (x7 : Int) (x8 : Int) (x9 : Int) {α : Type} (K : O_law16_VoteAsks → Option α) : tree_law16_VoteAsks F_law16_fixed F_ref15_May F_vote_Ask F_ref16_Ask F_vote_Seen F_ref16_Seen x1 x2 x3 x4 x5 x6 x7 x8 x9 K = (tree_law16_VoteAsks F_law16_fixed F_ref15_May F_vote_Ask F_ref16_Ask F_vote_Seen F_ref16_Seen x1 x2 x3 x4 x5 x6 x7 x8 x9 some).bind K := by simp only [tree_law16_VoteAsks, bind_cond, bind_none', bind_some', bind_bind', bind_sum]
theorem Fe_law16_VoteAsks (x1 : Int) (x2 : Int) (x3 : Int) (x4 : Int) (x5 : List (Int × Int × ByteArray)) (x6 : Int) (x7 : Int) (x8 : Int) (x9 : Int) : F_law16_VoteAsks ((x1, (x2, ())), ((x3, (x4, (x5, ()))), ((x6, (x7, (x8, (x9, ())))), ()))) () = tree_law16_VoteAsks F_law16_fixed F_ref15_May F_vote_Ask F_ref16_Ask F_vote_Seen F_ref16_Seen x1 x2 x3 x4 x5 x6 x7 x8 x9 some := rfl

end Go.Proofs.Ytjhaidbfahobmaa.S2
