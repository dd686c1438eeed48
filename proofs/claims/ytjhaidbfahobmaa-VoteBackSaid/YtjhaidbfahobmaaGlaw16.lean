/- Plain forms of the program's functions, by program. -/
import Derived.Test.YtjhaidbfahobmaaGvote
import Derived.Test.YtjhaidbfahobmaaGrvote
set_option maxRecDepth 100000
set_option maxHeartbeats 0
set_option linter.unusedVariables false
set_option linter.unusedSimpArgs false
namespace Go.Proofs.Ytjhaidbfahobmaa.S2
open Go
/-! countersign/countersignlaw16.fixed -/
def args_law16_fixed : SkL := .nil
def mem_law16_fixed : MSk := []
def outs_law16_fixed : List OutC := [⟨(.leaf .bool), []⟩]
abbrev A_law16_fixed : Type := Unit
abbrev M_law16_fixed : Type := Unit
abbrev O_law16_fixed : Type := Bool × Unit
def tree_law16_fixed (F_vote_Ask : A_vote_Ask → M_vote_Ask → Option O_vote_Ask) (F_vote_Change : A_vote_Change → M_vote_Change → Option O_vote_Change) (F_vote_Most : A_vote_Most → M_vote_Most → Option O_vote_Most) (F_ref01_Nums : A_ref01_Nums → M_ref01_Nums → Option O_ref01_Nums) {α : Type} (K : O_law16_fixed → Option α) : Option α :=
  (F_vote_Ask ((2, 0, ()), (0, 0, [], ()), 2, 5, 0, 0, ()) ()).bind fun r1 =>
  (F_vote_Change ([] ++ [3] ++ [1] ++ [3], 2, ()) ()).bind fun r2 =>
  cond (Bool.false ^^ r1.fst.fst.fst == 2 && (r1.fst.fst.snd.fst == 6 && Bool.true))
  (cond (r1.fst.snd.fst)
   ((F_vote_Most ([] ++ [1] ++ [2] ++ [3], [] ++ [2] ++ [3], ()) ()).bind fun r3 =>
    cond (r3.fst)
    ((F_vote_Most ([] ++ [1] ++ [2] ++ [3], [] ++ [1] ++ [9], ()) ()).bind fun r4 =>
     cond (!r4.fst)
     ((F_vote_Most ([], [], ()) ()).bind fun r5 =>
      cond (!r5.fst)
      (cond (r2.fst.snd.fst)
       ((F_ref01_Nums (r2.fst.fst, [] ++ [1] ++ [2] ++ [3], ()) ()).bind fun r6 =>
        K (r6.fst, ()))
       (K (false, ())))
      (K (false, ())))
     (K (false, ())))
    (K (false, ())))
   (K (false, ())))
  (K (false, ()))
noncomputable def F_law16_fixed : A_law16_fixed → M_law16_fixed → Option O_law16_fixed := fun a b => tree_law16_fixed F_vote_Ask F_vote_Change F_vote_Most F_ref01_Nums some
theorem n_law16_fixed (F_vote_Ask : A_vote_Ask → M_vote_Ask → Option O_vote_Ask) (F_vote_Change : A_vote_Change → M_vote_Change → Option O_vote_Change) (F_vote_Most : A_vote_Most → M_vote_Most → Option O_vote_Most) (F_ref01_Nums : A_ref01_Nums → M_ref01_Nums → Option O_ref01_Nums) {α : Type} (K : O_law16_fixed → Option α) : tree_law16_fixed F_vote_Ask F_vote_Change F_vote_Most F_ref01_Nums K = (tree_law16_fixed F_vote_Ask F_vote_Change F_vote_Most F_ref01_Nums some).bind K := by simp only [tree_law16_fixed, bind_cond, bind_none', bind_some', bind_bind', bind_sum]
theorem Fe_law16_fixed : F_law16_fixed () () = tree_law16_fixed F_vote_Ask F_vote_Change F_vote_Most F_ref01_Nums some := rfl

end Go.Proofs.Ytjhaidbfahobmaa.S2
