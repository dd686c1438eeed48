/- The program's functions come to their plain forms, by program. -/
import Derived.Test.YtjhaidbfahobmaaGlaw16
import Derived.Test.YtjhaidbfahobmaaHvote
import Derived.Test.YtjhaidbfahobmaaHrvote
set_option maxRecDepth 100000
set_option maxHeartbeats 0
set_option linter.unusedVariables false
set_option linter.unusedSimpArgs false
namespace Go.Proofs.Ytjhaidbfahobmaa.S2
open Go
def an_law16_fixed : Nat → LAnn := fun n => (find n []).getD ⟨0, [], [], [], []⟩
noncomputable def fd_law16_fixed : FD := fdOf Try.prog an_law16_fixed Try.f23
def br_law16_fixed : FuncId → CC := fun f => ⟨([] : List Nat).contains f, (find f []).getD [], (find f []).getD []⟩
def rc_law16_fixed : RC := ⟨true, [], []⟩
theorem h_law16_fixed (F_vote_Ask : A_vote_Ask → M_vote_Ask → Option O_vote_Ask) (F_vote_Change : A_vote_Change → M_vote_Change → Option O_vote_Change) (F_vote_Most : A_vote_Most → M_vote_Most → Option O_vote_Most) (F_ref01_Nums : A_ref01_Nums → M_ref01_Nums → Option O_ref01_Nums) {α : Type} (K : SV → Mem → Option α) : callBody (table [(24, ⟨args_vote_Ask, mem_vote_Ask, outs_vote_Ask, F_vote_Ask⟩), (28, ⟨args_vote_Change, mem_vote_Change, outs_vote_Change, F_vote_Change⟩), (30, ⟨args_vote_Most, mem_vote_Most, outs_vote_Most, F_vote_Most⟩), (31, ⟨args_ref01_Nums, mem_ref01_Nums, outs_ref01_Nums, F_ref01_Nums⟩)] []) br_law16_fixed rc_law16_fixed fd_law16_fixed (args_law16_fixed.svs ()) (mem_law16_fixed.mem ()) K = tree_law16_fixed F_vote_Ask F_vote_Change F_vote_Most F_ref01_Nums (fun r => outsRun outs_law16_fixed r K) := by kernel_rfl
noncomputable def C_law16_fixed : Con := ⟨args_law16_fixed, mem_law16_fixed, outs_law16_fixed, F_law16_fixed⟩
theorem k_law16_fixed : Known Try.prog fd_law16_fixed [(24, C_vote_Ask), (28, C_vote_Change), (30, C_vote_Most), (31, C_ref01_Nums)] [] := known_of mixT (by kernel_rfl) ⟨ok_vote_Ask, ok_vote_Change, ok_vote_Most, ok_ref01_Nums, trivial⟩ trivial
theorem fn_law16_fixed : FnOK Try.prog an_law16_fixed 23 Try.f23 fd_law16_fixed := fnOK (by kernel_rfl) (by kernel_rfl) (by kernel_rfl)
theorem ok_law16_fixed : ConOK Try.prog 23 C_law16_fixed := con_of k_law16_fixed (byRef := br_law16_fixed) fn_law16_fixed rc_law16_fixed args_law16_fixed mem_law16_fixed outs_law16_fixed (fun a b K => tree_law16_fixed F_vote_Ask F_vote_Change F_vote_Most F_ref01_Nums K) (fun a b => h_law16_fixed F_vote_Ask F_vote_Change F_vote_Most F_ref01_Nums _) (fun a b K => n_law16_fixed F_vote_Ask F_vote_Change F_vote_Most F_ref01_Nums K)

end Go.Proofs.Ytjhaidbfahobmaa.S2
