/- The program's functions come to their plain forms, by program. -/
import Derived.Test.YtljfdfghagiblaaGlaw06
import Derived.Test.YtljfdfghagiblaaHmerkle
import Derived.Test.YtljfdfghagiblaaHr06
set_option maxRecDepth 100000
set_option maxHeartbeats 0
set_option linter.unusedVariables false
set_option linter.unusedSimpArgs false
namespace Go.Proofs.Ytljfdfghagiblaa.S2
open Go
def an_law06_fixed : Nat → LAnn := fun n => (find n []).getD ⟨0, [], [], [], []⟩
noncomputable def fd_law06_fixed : FD := fdOf Try.prog an_law06_fixed Try.f17
def br_law06_fixed : FuncId → CC := fun f => ⟨([15, 19, 24, 28] : List Nat).contains f, (find f [(15, [0, 1, 2, 3, 4, 5, 6, 7, 8, 9, 10, 11]), (19, [0, 1, 2, 3, 4, 5, 6, 7, 8, 9, 10, 11]), (24, [0, 1, 2, 3, 4, 5, 6, 7, 8, 9, 10, 11]), (28, [0, 1, 2, 3, 4, 5, 6, 7, 8, 9, 10, 11])]).getD [], (find f [(15, [(0, 9, 9, (.cons .str .nil))]), (19, [(0, 9, 9, (.cons .str .nil))]), (24, [(0, 9, 9, (.cons .str .nil))]), (28, [(0, 9, 9, (.cons .str .nil))])]).getD []⟩
def rc_law06_fixed : RC := ⟨true, [], []⟩
theorem h_law06_fixed (F_ideal_New : A_ideal_New → M_ideal_New → Option O_ideal_New) (F_merkle_Build : A_merkle_Build → M_merkle_Build → Option O_merkle_Build) (F_merkle_Path : A_merkle_Path → M_merkle_Path → Option O_merkle_Path) (F_merkle_Climb : A_merkle_Climb → M_merkle_Climb → Option O_merkle_Climb) (F_ref06_Is : A_ref06_Is → M_ref06_Is → Option O_ref06_Is) (F_ref01_Nums : A_ref01_Nums → M_ref01_Nums → Option O_ref01_Nums) (F_merkle_Fits : A_merkle_Fits → M_merkle_Fits → Option O_merkle_Fits) (F_ideal_Oracle_Drawn : A_ideal_Oracle_Drawn → M_ideal_Oracle_Drawn → Option O_ideal_Oracle_Drawn) {α : Type} (K : SV → Mem → Option α) : callBody (table [(13, ⟨args_ideal_New, mem_ideal_New, outs_ideal_New, F_ideal_New⟩), (15, ⟨args_merkle_Build, mem_merkle_Build, outs_merkle_Build, F_merkle_Build⟩), (23, ⟨args_merkle_Path, mem_merkle_Path, outs_merkle_Path, F_merkle_Path⟩), (24, ⟨args_merkle_Climb, mem_merkle_Climb, outs_merkle_Climb, F_merkle_Climb⟩), (18, ⟨args_ref06_Is, mem_ref06_Is, outs_ref06_Is, F_ref06_Is⟩), (25, ⟨args_ref01_Nums, mem_ref01_Nums, outs_ref01_Nums, F_ref01_Nums⟩), (28, ⟨args_merkle_Fits, mem_merkle_Fits, outs_merkle_Fits, F_merkle_Fits⟩), (19, ⟨args_ideal_Oracle_Drawn, mem_ideal_Oracle_Drawn, outs_ideal_Oracle_Drawn, F_ideal_Oracle_Drawn⟩)] []) br_law06_fixed rc_law06_fixed fd_law06_fixed (args_law06_fixed.svs ()) (mem_law06_fixed.mem ()) K = tree_law06_fixed F_ideal_New F_merkle_Build F_merkle_Path F_merkle_Climb F_ref06_Is F_ref01_Nums F_merkle_Fits F_ideal_Oracle_Drawn (fun r => outsRun outs_law06_fixed r K) := by kernel_rfl
noncomputable def C_law06_fixed : Con := ⟨args_law06_fixed, mem_law06_fixed, outs_law06_fixed, F_law06_fixed⟩
theorem k_law06_fixed : Known Try.prog fd_law06_fixed [(13, C_ideal_New), (15, C_merkle_Build), (23, C_merkle_Path), (24, C_merkle_Climb), (18, C_ref06_Is), (25, C_ref01_Nums), (28, C_merkle_Fits), (19, C_ideal_Oracle_Drawn)] [] := known_of mixT (by kernel_rfl) ⟨ok_ideal_New, ok_merkle_Build, ok_merkle_Path, ok_merkle_Climb, ok_ref06_Is, ok_ref01_Nums, ok_merkle_Fits, ok_ideal_Oracle_Drawn, trivial⟩ trivial
theorem fn_law06_fixed : FnOK Try.prog an_law06_fixed 17 Try.f17 fd_law06_fixed := fnOK (by kernel_rfl) (by kernel_rfl) (by kernel_rfl)
theorem ok_law06_fixed : ConOK Try.prog 17 C_law06_fixed := con_of k_law06_fixed (byRef := br_law06_fixed) fn_law06_fixed rc_law06_fixed args_law06_fixed mem_law06_fixed outs_law06_fixed (fun a b K => tree_law06_fixed F_ideal_New F_merkle_Build F_merkle_Path F_merkle_Climb F_ref06_Is F_ref01_Nums F_merkle_Fits F_ideal_Oracle_Drawn K) (fun a b => h_law06_fixed F_ideal_New F_merkle_Build F_merkle_Path F_merkle_Climb F_ref06_Is F_ref01_Nums F_merkle_Fits F_ideal_Oracle_Drawn _) (fun a b K => n_law06_fixed F_ideal_New F_merkle_Build F_merkle_Path F_merkle_Climb F_ref06_Is F_ref01_Nums F_merkle_Fits F_ideal_Oracle_Drawn K)

end Go.Proofs.Ytljfdfghagiblaa.S2
