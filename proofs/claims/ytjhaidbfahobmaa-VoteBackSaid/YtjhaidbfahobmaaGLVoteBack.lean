/- Plain forms of the program's functions, by program. -/
import Derived.Test.YtjhaidbfahobmaaGlaw16
set_option maxRecDepth 100000
set_option maxHeartbeats 0
set_option linter.unusedVariables false
set_option linter.unusedSimpArgs false
namespace Go.Proofs.Ytjhaidbfahobmaa.S2
open Go
/-! countersign/countersignlaw16.VoteBack -/
def args_law16_VoteBack : SkL := (.cons (.leaf (.slc 22 (.cons (.int .u64) .nil))) (.cons (.leaf (.int .u64)) .nil))
def mem_law16_VoteBack : MSk := []
def outs_law16_VoteBack : List OutC := [⟨(.leaf .bool), []⟩]
abbrev A_law16_VoteBack : Type := (List Int × Int × Unit)
abbrev M_law16_VoteBack : Type := Unit
abbrev O_law16_VoteBack : Type := Bool × Unit
def tree_law16_VoteBack (F_law16_fixed : A_law16_fixed → M_law16_fixed → Option O_law16_fixed) (F_vote_Change : A_vote_Change → M_vote_Change → Option O_vote_Change) (F_ref16_Once : A_ref16_Once → M_ref16_Once → Option O_ref16_Once) (F_ref01_Nums : A_ref01_Nums → M_ref01_Nums → Option O_ref01_Nums) {α : Type} (x1 : List Int) (x2 : Int) (K : O_law16_VoteBack → Option α) : Option α :=
  (F_law16_fixed () ()).bind fun r1 =>
  cond (!r1.fst)
  ((F_law16_fixed () ()).bind fun r2 =>
   K (r2.fst, ()))
  (cond (decide ((↑x1.length : Int) > 100))
   ((F_law16_fixed () ()).bind fun r3 =>
    K (r3.fst, ()))
   ((F_vote_Change (x1, x2, ()) ()).bind fun r4 =>
    (F_vote_Change (r4.fst.fst, x2, ()) ()).bind fun r5 =>
    cond (!r4.fst.snd.fst)
    ((F_ref16_Once (x1, ()) ()).bind fun r6 =>
     (F_ref01_Nums (r4.fst.fst, r6.fst, ()) ()).bind fun r7 =>
     K (r7.fst, ()))
    (cond (!r5.fst.snd.fst)
     ((F_ref16_Once (x1, ()) ()).bind fun r8 =>
      cond (decide ((↑r8.fst.length : Int) > 7))
      (K (true, ()))
      (cond (r5.fst.snd.fst)
       ((F_ref16_Once (x1, ()) ()).bind fun r9 =>
        (F_ref01_Nums (r5.fst.fst, r9.fst, ()) ()).bind fun r10 =>
        cond (r10.fst)
        (K (true, ()))
        (cond (!r5.fst.snd.fst)
         ((F_ref16_Once (x1, ()) ()).bind fun r11 =>
          K ((↑r11.fst.length : Int) == 0, ()))
         (K (false, ()))))
       (cond (!r5.fst.snd.fst)
        ((F_ref16_Once (x1, ()) ()).bind fun r12 =>
         K ((↑r12.fst.length : Int) == 0, ()))
        (K (false, ())))))
     (cond (r5.fst.snd.fst)
      ((F_ref16_Once (x1, ()) ()).bind fun r13 =>
       (F_ref01_Nums (r5.fst.fst, r13.fst, ()) ()).bind fun r14 =>
       cond (r14.fst)
       (K (true, ()))
       (cond (!r5.fst.snd.fst)
        ((F_ref16_Once (x1, ()) ()).bind fun r15 =>
         K ((↑r15.fst.length : Int) == 0, ()))
        (K (false, ()))))
      (cond (!r5.fst.snd.fst)
       ((F_ref16_Once (x1, ()) ()).bind fun r16 =>
        K ((↑r16.fst.length : Int) == 0, ()))
       (K (false, ())))))))
noncomputable def F_law16_VoteBack : A_law16_VoteBack → M_law16_VoteBack → Option O_law16_VoteBack := fun a b => tree_law16_VoteBack F_law16_fixed F_vote_Change F_ref16_Once F_ref01_Nums a.1 a.2.1 some
theorem n_law16_VoteBack (F_law16_fixed : A_law16_fixed → M_law16_fixed → Option O_law16_fixed) (F_vote_Change : A_vote_Change → M_vote_Change → Option O_vote_Change) (F_ref16_Once : A_ref16_Once → M_ref16_Once → Option O_ref16_Once) (F_ref01_Nums : A_ref01_Nums → M_ref01_Nums → Option O_ref01_Nums) (x1 : List Int) (x2 : Int) {α : Type} (K : O_law16_VoteBack → Option α) : tree_law16_VoteBack F_law16_fixed F_vote_Change F_ref16_Once F_ref01_Nums x1 x2 K = (tree_law16_VoteBack F_law16_fixed F_vote_Change F_ref16_Once F_ref01_Nums x1 x2 some).bind K := by simp only [tree_law16_VoteBack, bind_cond, bind_none', bind_some', bind_bind', bind_sum]
theorem Fe_law16_VoteBack (x1 : List Int) (x2 : Int) : F_law16_VoteBack (x1, (x2, ())) () = tree_law16_VoteBack F_law16_fixed F_vote_Change F_ref16_Once F_ref01_Nums x1 x2 some := rfl

end Go.Proofs.Ytjhaidbfahobmaa.S2
