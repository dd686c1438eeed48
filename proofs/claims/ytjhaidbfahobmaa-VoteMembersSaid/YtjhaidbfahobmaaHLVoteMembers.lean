/- The program's functions come to their plain forms, by program. -/
import Derived.Test.YtjhaidbfahobmaaGLVoteMembers
import Derived.Test.YtjhaidbfahobmaaHlaw16
set_option maxRecDepth 100000
set_option maxHeartbeats 0
set_option linter.unusedVariables false
set_option linter.unusedSimpArgs false
namespace Go.Proofs.Ytjhaidbfahobmaa.S2
open Go
def an_law16_VoteMembers : Nat → LAnn := fun n => (find n []).getD ⟨0, [], [], [], []⟩
noncomputable def fd_law16_VoteMembers : FD := fdOf Try.prog an_law16_VoteMembers Try.f7
def br_law16_VoteMembers : FuncId → CC := fun f => ⟨([] : List Nat).contains f, (find f []).getD [], (find f []).getD []⟩
def rc_law16_VoteMembers : RC := ⟨true, [], []⟩
theorem h_law16_VoteMembers (F_law16_fixed : A_law16_fixed → M_law16_fixed → Option O_law16_fixed) (F_vote_Change : A_vote_Change → M_vote_Change → Option O_vote_Change) (F_ref16_Change : A_ref16_Change → M_ref16_Change → Option O_ref16_Change) (F_vote_Most : A_vote_Most → M_vote_Most → Option O_vote_Most) (F_ref16_Most : A_ref16_Most → M_ref16_Most → Option O_ref16_Most) (F_ref01_Nums : A_ref01_Nums → M_ref01_Nums → Option O_ref01_Nums) (x1 : List Int) (x2 : List Int) (x3 : Int) {α : Type} (K : SV → Mem → Option α) : callBody (table [(23, ⟨args_law16_fixed, mem_law16_fixed, outs_law16_fixed, F_law16_fixed⟩), (28, ⟨args_vote_Change, mem_vote_Change, outs_vote_Change, F_vote_Change⟩), (29, ⟨args_ref16_Change, mem_ref16_Change, outs_ref16_Change, F_ref16_Change⟩), (30, ⟨args_vote_Most, mem_vote_Most, outs_vote_Most, F_vote_Most⟩), (22, ⟨args_ref16_Most, mem_ref16_Most, outs_ref16_Most, F_ref16_Most⟩), (31, ⟨args_ref01_Nums, mem_ref01_Nums, outs_ref01_Nums, F_ref01_Nums⟩)] []) br_law16_VoteMembers rc_law16_VoteMembers fd_law16_VoteMembers (args_law16_VoteMembers.svs (x1, (x2, (x3, ())))) (mem_law16_VoteMembers.mem ()) K = tree_law16_VoteMembers F_law16_fixed F_vote_Change F_ref16_Change F_vote_Most F_ref16_Most F_ref01_Nums x1 x2 x3 (fun r => outsRun outs_law16_VoteMembers r K) := by kernel_rfl
noncomputable def C_law16_VoteMembers : Con := ⟨args_law16_VoteMembers, mem_law16_VoteMembers, outs_law16_VoteMembers, F_law16_VoteMembers⟩
theorem k_law16_VoteMembers : Known Try.prog fd_law16_VoteMembers [(23, C_law16_fixed), (28, C_vote_Change), (29, C_ref16_Change), (30, C_vote_Most), (22, C_ref16_Most), (31, C_ref01_Nums)] [] := known_of mixT (by kernel_rfl) ⟨ok_law16_fixed, ok_vote_Change, ok_ref16_Change, ok_vote_Most, ok_ref16_Most, ok_ref01_Nums, trivial⟩ trivial
theorem fn_law16_VoteMembers : FnOK Try.prog an_law16_VoteMembers 7 Try.f7 fd_law16_VoteMembers := fnOK (by kernel_rfl) (by kernel_rfl) (by kernel_rfl)
theorem ok_law16_VoteMembers : ConOK Try.prog 7 C_law16_VoteMembers := con_of k_law16_VoteMembers (byRef := br_law16_VoteMembers) fn_law16_VoteMembers rc_law16_VoteMembers args_law16_VoteMembers mem_law16_VoteMembers outs_law16_VoteMembers (fun a b K => tree_law16_VoteMembers F_law16_fixed F_vote_Change F_ref16_Change F_vote_Most F_ref16_Most F_ref01_Nums a.1 a.2.1 a.2.2.1 K) (fun a b => h_law16_VoteMembers F_law16_fixed F_vote_Change F_ref16_Change F_vote_Most F_ref16_Most F_ref01_Nums a.1 a.2.1 a.2.2.1 _) (fun a b K => n_law16_VoteMembers F_law16_fixed F_vote_Change F_ref16_Change F_vote_Most F_ref16_Most F_ref01_Nums a.1 a.2.1 a.2.2.1 K)

end Go.Proofs.Ytjhaidbfahobmaa.S2
