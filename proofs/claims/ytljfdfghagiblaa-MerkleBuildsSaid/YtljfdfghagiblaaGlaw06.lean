/- Plain forms of the program's functions, by program. -/
import Derived.Test.YtljfdfghagiblaaGmerkle
import Derived.Test.YtljfdfghagiblaaGr06
set_option maxRecDepth 100000
set_option maxHeartbeats 0
set_option linter.unusedVariables false
set_option linter.unusedSimpArgs false
namespace Go.Proofs.Ytljfdfghagiblaa.S2
open Go
/-! countersign/countersignlaw06.fixed -/
def args_law06_fixed : SkL := .nil
def mem_law06_fixed : MSk := []
def outs_law06_fixed : List OutC := [⟨(.leaf .bool), []⟩]
abbrev A_law06_fixed : Type := Unit
abbrev M_law06_fixed : Type := Unit
abbrev O_law06_fixed : Type := Bool × Unit
def tree_law06_fixed (F_ideal_New : A_ideal_New → M_ideal_New → Option O_ideal_New) (F_merkle_Build : A_merkle_Build → M_merkle_Build → Option O_merkle_Build) (F_merkle_Path : A_merkle_Path → M_merkle_Path → Option O_merkle_Path) (F_merkle_Climb : A_merkle_Climb → M_merkle_Climb → Option O_merkle_Climb) (F_ref06_Is : A_ref06_Is → M_ref06_Is → Option O_ref06_Is) (F_ref01_Nums : A_ref01_Nums → M_ref01_Nums → Option O_ref01_Nums) (F_merkle_Fits : A_merkle_Fits → M_merkle_Fits → Option O_merkle_Fits) (F_ideal_Oracle_Drawn : A_ideal_Oracle_Drawn → M_ideal_Oracle_Drawn → Option O_ideal_Oracle_Drawn) {α : Type} (K : O_law06_fixed → Option α) : Option α :=
 (F_ideal_New ([] ++ [5] ++ [6] ++ [7], ()) ()).bind fun r1 =>
 (F_merkle_Build (1, [] ++ [(ByteArray.mk #[97])], ()) ((r1.snd.fst.fst, r1.snd.fst.snd.fst, r1.snd.fst.snd.snd.fst, ()), r1.snd.snd.fst, r1.snd.snd.snd.fst, r1.snd.snd.snd.snd.fst, r1.snd.snd.snd.snd.snd.fst, r1.snd.snd.snd.snd.snd.snd.fst, r1.snd.snd.snd.snd.snd.snd.snd.fst, r1.snd.snd.snd.snd.snd.snd.snd.snd.fst, ())).bind fun r2 =>
 (F_merkle_Path (r2.fst.fst, 0, ()) ()).bind fun r3 =>
 (F_merkle_Climb ((ByteArray.mk #[97]), 0, r3.fst.fst, ()) ((r2.snd.fst.fst, r2.snd.fst.snd.fst, r2.snd.fst.snd.snd.fst, ()), r2.snd.snd.fst, r2.snd.snd.snd.fst, r2.snd.snd.snd.snd.fst, r2.snd.snd.snd.snd.snd.fst, r2.snd.snd.snd.snd.snd.snd.fst, r2.snd.snd.snd.snd.snd.snd.snd.fst, r2.snd.snd.snd.snd.snd.snd.snd.snd.fst, ())).bind fun r4 =>
 (F_merkle_Build (1, [] ++ [(ByteArray.mk #[97])] ++ [(ByteArray.mk #[98])] ++ [(ByteArray.mk #[99])], ()) ((r4.snd.fst.fst, r4.snd.fst.snd.fst, r4.snd.fst.snd.snd.fst, ()), r4.snd.snd.fst, r4.snd.snd.snd.fst, r4.snd.snd.snd.snd.fst, r4.snd.snd.snd.snd.snd.fst, r4.snd.snd.snd.snd.snd.snd.fst, r4.snd.snd.snd.snd.snd.snd.snd.fst, r4.snd.snd.snd.snd.snd.snd.snd.snd.fst, ())).bind fun r5 =>
 cond (r2.fst.snd.fst)
 ((F_ref06_Is (r2.fst.fst, [] ++ [[] ++ [5] ++ [6]] ++ [[] ++ [7]], ()) ()).bind fun r6 =>
 cond (r6.fst)
 (cond (r3.fst.snd.fst)
 ((F_ref01_Nums (r3.fst.fst, [] ++ [6], ()) ()).bind fun r7 =>
 cond (r7.fst)
 (cond (r4.fst.snd.fst)
 (cond (r4.fst.fst == 7)
 (cond (!r5.fst.snd.fst)
 ((F_merkle_Fits (r2.fst.fst, ()) ((r5.snd.fst.fst, r5.snd.fst.snd.fst, r5.snd.fst.snd.snd.fst, ()), r5.snd.snd.fst, r5.snd.snd.snd.fst, r5.snd.snd.snd.snd.fst, r5.snd.snd.snd.snd.snd.fst, r5.snd.snd.snd.snd.snd.snd.fst, r5.snd.snd.snd.snd.snd.snd.snd.fst, r5.snd.snd.snd.snd.snd.snd.snd.snd.fst, ())).bind fun r8 =>
 cond (r8.fst)
 ((F_ideal_Oracle_Drawn () ((r8.snd.fst.fst, r8.snd.fst.snd.fst, r8.snd.fst.snd.snd.fst, ()), r8.snd.snd.fst, r8.snd.snd.snd.fst, r8.snd.snd.snd.snd.fst, r8.snd.snd.snd.snd.snd.fst, r8.snd.snd.snd.snd.snd.snd.fst, r8.snd.snd.snd.snd.snd.snd.snd.fst, r8.snd.snd.snd.snd.snd.snd.snd.snd.fst, ())).bind fun r9 =>
 K (r9.fst == 3, ()))
 (K (false, ())))
 (K (false, ())))
 (K (false, ())))
 (K (false, ())))
 (K (false, ())))
 (K (false, ())))
 (K (false, ())))
 (K (false, ()))
noncomputable def F_law06_fixed : A_law06_fixed → M_law06_fixed → Option O_law06_fixed := fun a b => tree_law06_fixed F_ideal_New F_merkle_Build F_merkle_Path F_merkle_Climb F_ref06_Is F_ref01_Nums F_merkle_Fits F_ideal_Oracle_Drawn some
theorem n_law06_fixed (F_ideal_New : A_ideal_New → M_ideal_New → Option O_ideal_New) (F_merkle_Build : A_merkle_Build → M_merkle_Build → Option O_merkle_Build) (F_merkle_Path : A_merkle_Path → M_merkle_Path → Option O_merkle_Path) (F_merkle_Climb : A_merkle_Climb → M_merkle_Climb → Option O_merkle_Climb) (F_ref06_Is : A_ref06_Is → M_ref06_Is → Option O_ref06_Is) (F_ref01_Nums : A_ref01_Nums → M_ref01_Nums → Option O_ref01_Nums) (F_merkle_Fits : A_merkle_Fits → M_merkle_Fits → Option O_merkle_Fits) (F_ideal_Oracle_Drawn : A_ideal_Oracle_Drawn → M_ideal_Oracle_Drawn → Option O_ideal_Oracle_Drawn) {α : Type} (K : O_law06_fixed → Option α) : tree_law06_fixed F_ideal_New F_merkle_Build F_merkle_Path F_merkle_Climb F_ref06_Is F_ref01_Nums F_merkle_Fits F_ideal_Oracle_Drawn K = (tree_law06_fixed F_ideal_New F_merkle_Build F_merkle_Path F_merkle_Climb F_ref06_Is F_ref01_Nums F_merkle_Fits F_ideal_Oracle_Drawn some).bind K := by simp only [tree_law06_fixed, bind_cond, bind_none', bind_some', bind_bind', bind_sum]
theorem Fe_law06_fixed : F_law06_fixed () () = tree_law06_fixed F_ideal_New F_merkle_Build F_merkle_Path F_merkle_Climb F_ref06_Is F_ref01_Nums F_merkle_Fits F_ideal_Oracle_Drawn some := rfl

end Go.Proofs.Ytljfdfghagiblaa.S2
