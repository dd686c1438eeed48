/- Plain forms of the program's functions, by program. -/
import Derived.Test.YtjhaidbfahobmaaGlaw16
set_option maxRecDepth 100000
set_option maxHeartbeats 0
set_option linter.unusedVariables false
set_option linter.unusedSimpArgs false
namespace Go.Proofs.Ytjhaidbfahobmaa.S2
open Go
/-! countersign/countersignlaw16.VoteMembers -/
def args_law16_VoteMembers : SkL := (.cons (.leaf (.slc 22 (.cons (.int .u64) .nil))) (.cons (.leaf (.slc 22 (.cons (.int .u64) .nil))) (.cons (.leaf (.int .u64)) .nil)))
def mem_law16_VoteMembers : MSk := []
def outs_law16_VoteMembers : List OutC := [⟨(.leaf .bool), []⟩]
abbrev A_law16_VoteMembers : Type := (List Int × List Int × Int × Unit)
abbrev M_law16_VoteMembers : Type := Unit
abbrev O_law16_VoteMembers : Type := Bool × Unit
def tree_law16_VoteMembers (F_law16_fixed : A_law16_fixed → M_law16_fixed → Option O_law16_fixed) (F_vote_Change : A_vote_Change → M_vote_Change → Option O_vote_Change) (F_ref16_Change : A_ref16_Change → M_ref16_Change → Option O_ref16_Change) (F_vote_Most : A_vote_Most → M_vote_Most → Option O_vote_Most) (F_ref16_Most : A_ref16_Most → M_ref16_Most → Option O_ref16_Most) (F_ref01_Nums : A_ref01_Nums → M_ref01_Nums → Option O_ref01_Nums) {α : Type} (x1 : List Int) (x2 : List Int) (x3 : Int) (K : O_law16_VoteMembers → Option α) : Option α :=
  cond (decide ((↑x1.length : Int) > 100))
  ((F_law16_fixed () ()).bind fun r1 =>
   K (r1.fst, ()))
  ((F_vote_Change (x1, x3, ()) ()).bind fun r2 =>
   (F_ref16_Change (x1, x3, ()) ()).bind fun r3 =>
   (F_law16_fixed () ()).bind fun r4 =>
   cond (r4.fst)
   ((F_vote_Most (x1, x2, ()) ()).bind fun r5 =>
    (F_ref16_Most (x1, x2, ()) ()).bind fun r6 =>
    cond (r5.fst == r6.fst)
    ((F_ref01_Nums (r2.fst.fst, r3.fst.fst, ()) ()).bind fun r7 =>
     cond (r7.fst)
     (K (r2.fst.snd.fst == r3.fst.snd.fst, ()))
     (K (false, ())))
    (K (false, ())))
   (K (false, ())))
noncomputable def F_law16_VoteMembers : A_law16_VoteMembers → M_law16_VoteMembers → Option O_law16_VoteMembers := fun a b => tree_law16_VoteMembers F_law16_fixed F_vote_Change F_ref16_Change F_vote_Most F_ref16_Most F_ref01_Nums a.1 a.2.1 a.2.2.1 some
theorem n_law16_VoteMembers (F_law16_fixed : A_law16_fixed → M_law16_fixed → Option O_law16_fixed) (F_vote_Change : A_vote_Change → M_vote_Change → Option O_vote_Change) (F_ref16_Change : A_ref16_Change → M_ref16_Change → Option O_ref16_Change) (F_vote_Most : A_vote_Most → M_vote_Most → Option O_vote_Most) (F_ref16_Most : A_ref16_Most → M_ref16_Most → Option O_ref16_Most) (F_ref01_Nums : A_ref01_Nums → M_ref01_Nums → Option O_ref01_Nums) (x1 : List Int) (x2 : List Int) (x3 : Int) {α : Type} (K : O_law16_VoteMembers → Option α) : tree_law16_VoteMembers F_law16_fixed F_vote_Change F_ref16_Change F_vote_Most F_ref16_Most F_ref01_Nums x1 x2 x3 K = (tree_law16_VoteMembers F_law16_fixed F_vote_Change F_ref16_Change F_vote_Most F_ref16_Most F_ref01_Nums x1 x2 x3 some).bind K := by simp only [tree_law16_VoteMembers, bind_cond, bind_none', bind_some', bind_bind', bind_sum]
theorem Fe_law16_VoteMembers (x1 : List Int) (x2 : List Int) (x3 : Int) : F_law16_VoteMembers (x1, (x2, (x3, ()))) () = tree_law16_VoteMembers F_law16_fixed F_vote_Change F_ref16_Change F_vote_Most F_ref16_Most F_ref01_Nums x1 x2 x3 some := rfl

end Go.Proofs.Ytjhaidbfahobmaa.S2
