/- Plain forms of the program's functions, by program. -/
import Derived.Test.YtljfdfghagiblaaGlaw06
set_option maxRecDepth 100000
set_option maxHeartbeats 0
set_option linter.unusedVariables false
set_option linter.unusedSimpArgs false
namespace Go.Proofs.Ytljfdfghagiblaa.S2
open Go
/-! countersign/countersignlaw06.MerkleBuilds -/
def args_law06_MerkleBuilds : SkL := (.cons (.agg (.cons (.leaf (.slc 41 (.cons (.int .u64) .nil))) (.cons (.leaf (.int .i64)) (.cons (.leaf (.slc 9 (.cons .str .nil))) .nil)))) .nil)
def mem_law06_MerkleBuilds : MSk := []
def outs_law06_MerkleBuilds : List OutC := [⟨(.leaf .bool), []⟩]
abbrev A_law06_MerkleBuilds : Type := ((List Int × Int × List ByteArray × Unit) × Unit)
abbrev M_law06_MerkleBuilds : Type := Unit
abbrev O_law06_MerkleBuilds : Type := Bool × Unit
def tree_law06_MerkleBuilds (F_ideal_New : A_ideal_New → M_ideal_New → Option O_ideal_New) (F_ref03_New : A_ref03_New → M_ref03_New → Option O_ref03_New) (F_merkle_Build : A_merkle_Build → M_merkle_Build → Option O_merkle_Build) (F_ref06_Build : A_ref06_Build → M_ref06_Build → Option O_ref06_Build) (F_law06_fixed : A_law06_fixed → M_law06_fixed → Option O_law06_fixed) (F_ref06_Is : A_ref06_Is → M_ref06_Is → Option O_ref06_Is) (F_ideal_Oracle_Drawn : A_ideal_Oracle_Drawn → M_ideal_Oracle_Drawn → Option O_ideal_Oracle_Drawn) (F_ref03_Oracle_Drawn : A_ref03_Oracle_Drawn → M_ref03_Oracle_Drawn → Option O_ref03_Oracle_Drawn) (F_ideal_Oracle_Bad : A_ideal_Oracle_Bad → M_ideal_Oracle_Bad → Option O_ideal_Oracle_Bad) (F_ref03_Oracle_Bad : A_ref03_Oracle_Bad → M_ref03_Oracle_Bad → Option O_ref03_Oracle_Bad) {α : Type} (x1 : List Int) (x2 : Int) (x3 : List ByteArray) (K : O_law06_MerkleBuilds → Option α) : Option α :=
 (F_ideal_New (x1, ()) ()).bind fun r1 =>
 (F_ref03_New (x1, ()) ()).bind fun r2 =>
 (F_merkle_Build (x2, x3, ()) ((r1.snd.fst.fst, r1.snd.fst.snd.fst, r1.snd.fst.snd.snd.fst, ()), r1.snd.snd.fst, r1.snd.snd.snd.fst, r1.snd.snd.snd.snd.fst, r1.snd.snd.snd.snd.snd.fst, r1.snd.snd.snd.snd.snd.snd.fst, r1.snd.snd.snd.snd.snd.snd.snd.fst, r1.snd.snd.snd.snd.snd.snd.snd.snd.fst, ())).bind fun r3 =>
 (F_ref06_Build (x2, x3, ()) ((r2.snd.fst.fst, ()), r2.snd.snd.fst, r2.snd.snd.snd.fst, r2.snd.snd.snd.snd.fst, ())).bind fun r4 =>
 (F_law06_fixed () ()).bind fun r5 =>
 cond (r5.fst)
 ((F_ref06_Is (r3.fst.fst, r4.fst.fst, ()) ()).bind fun r6 =>
 cond (r6.fst)
 (cond (r3.fst.snd.fst == r4.fst.snd.fst)
 ((F_ideal_Oracle_Drawn () ((r3.snd.fst.fst, r3.snd.fst.snd.fst, r3.snd.fst.snd.snd.fst, ()), r3.snd.snd.fst, r3.snd.snd.snd.fst, r3.snd.snd.snd.snd.fst, r3.snd.snd.snd.snd.snd.fst, r3.snd.snd.snd.snd.snd.snd.fst, r3.snd.snd.snd.snd.snd.snd.snd.fst, r3.snd.snd.snd.snd.snd.snd.snd.snd.fst, ())).bind fun r7 =>
 (F_ref03_Oracle_Drawn () ((r4.snd.fst.fst, ()), r4.snd.snd.fst, r4.snd.snd.snd.snd.snd.fst, r4.snd.snd.snd.snd.fst, ())).bind fun r8 =>
 cond (r7.fst == r8.fst)
 ((F_ideal_Oracle_Bad () ((r3.snd.fst.fst, r3.snd.fst.snd.fst, r3.snd.fst.snd.snd.fst, ()), r3.snd.snd.fst, r3.snd.snd.snd.fst, r3.snd.snd.snd.snd.fst, r3.snd.snd.snd.snd.snd.fst, r3.snd.snd.snd.snd.snd.snd.fst, r3.snd.snd.snd.snd.snd.snd.snd.fst, r3.snd.snd.snd.snd.snd.snd.snd.snd.fst, ())).bind fun r9 =>
 (F_ref03_Oracle_Bad () ((r4.snd.fst.fst, ()), r4.snd.snd.fst, r4.snd.snd.snd.snd.snd.fst, r4.snd.snd.snd.snd.fst, ())).bind fun r10 =>
 K (r9.fst == r10.fst, ()))
 (K (false, ())))
 (K (false, ())))
 (K (false, ())))
 (K (false, ()))
noncomputable def F_law06_MerkleBuilds : A_law06_MerkleBuilds → M_law06_MerkleBuilds → Option O_law06_MerkleBuilds := fun a b => tree_law06_MerkleBuilds F_ideal_New F_ref03_New F_merkle_Build F_ref06_Build F_law06_fixed F_ref06_Is F_ideal_Oracle_Drawn F_ref03_Oracle_Drawn F_ideal_Oracle_Bad F_ref03_Oracle_Bad a.1.1 a.1.2.1 a.1.2.2.1 some
theorem n_law06_MerkleBuilds (F_ideal_New : A_ideal_New → M_ideal_New → Option O_ideal_New) (F_ref03_New : A_ref03_New → M_ref03_New → Option O_ref03_New) (F_merkle_Build : A_merkle_Build → M_merkle_Build → Option O_merkle_Build) (F_ref06_Build : A_ref06_Build → M_ref06_Build → Option O_ref06_Build) (F_law06_fixed : A_law06_fixed → M_law06_fixed → Option O_law06_fixed) (F_ref06_Is : A_ref06_Is → M_ref06_Is → Option O_ref06_Is) (F_ideal_Oracle_Drawn : A_ideal_Oracle_Drawn → M_ideal_Oracle_Drawn → Option O_ideal_Oracle_Drawn) (F_ref03_Oracle_Drawn : A_ref03_Oracle_Drawn → M_ref03_Oracle_Drawn → Option O_ref03_Oracle_Drawn) (F_ideal_Oracle_Bad : A_ideal_Oracle_Bad → M_ideal_Oracle_Bad → Option O_ideal_Oracle_Bad) (F_ref03_Oracle_Bad : A_ref03_Oracle_Bad → M_ref03_Oracle_Bad → Option O_ref03_Oracle_Bad) (x1 : List Int) (x2 : Int) (x3 : List ByteArray) {α : Type} (K : O_law06_MerkleBuilds → Option α) : tree_law06_MerkleBuilds F_ideal_New F_ref03_New F_merkle_Build F_ref06_Build F_law06_fixed F_ref06_Is F_ideal_Oracle_Drawn F_ref03_Oracle_Drawn F_ideal_Oracle_Bad F_ref03_Oracle_Bad x1 x2 x3 K = (tree_law06_MerkleBuilds F_ideal_New F_ref03_New F_merkle_Build F_ref06_Build F_law06_fixed F_ref06_Is F_ideal_Oracle_Drawn F_ref03_Oracle_Drawn F_ideal_Oracle_Bad F_ref03_Oracle_Bad x1 x2 x3 some).bind K := by simp only [tree_law06_MerkleBuilds, bind_cond, bind_none', bind_some', bind_bind', bind_sum]
theorem Fe_law06_MerkleBuilds (x1 : List Int) (x2 : Int) (x3 : List ByteArray) : F_law06_MerkleBuilds ((x1, (x2, (x3, ()))), ()) () = tree_law06_MerkleBuilds F_ideal_New F_ref03_New F_merkle_Build F_ref06_Build F_law06_fixed F_ref06_Is F_ideal_Oracle_Drawn F_ref03_Oracle_Drawn F_ideal_Oracle_Bad F_ref03_Oracle_Bad x1 x2 x3 some := rfl

end Go.Proofs.Ytljfdfghagiblaa.S2
