/- The program's functions come to their plain forms, by program. -/
import Derived.Test.YtjhaidbfahobmaaGLVoteBack
import Derived.Test.YtjhaidbfahobmaaHlaw16
set_option maxRecDepth 100000
set_option maxHeartbeats 0
set_option linter.unusedVariables false
set_option linter.unusedSimpArgs false
namespace Go.Proofs.Ytjhaidbfahobmaa.S2
open Go
def an_law16_VoteBack : Nat → LAnn := fun n => (find n []).getD ⟨0, [], [], [], []⟩
noncomputable def fd_law16_VoteBack : FD := fdOf Try.prog an_law16_VoteBack Try.f10
def br_law16_VoteBack : FuncId → CC := fun f => ⟨([] : List Nat).contains f, (find f []).getD [], (find f []).getD []⟩
def rc_law16_VoteBack : RC := ⟨true, [], []⟩
theorem h_law16_VoteBack (F_law16_fixed : A_law16_fixed → M_law16_fixed → Option O_law16_fixed) (F_vote_Change : A_vote_Change → M_vote_Change → Option O_vote_Change) (F_ref16_Once : A_ref16_Once → M_ref16_Once → Option O_ref16_Once) (F_ref01_Nums : A_ref01_Nums → M_ref01_Nums → Option O_ref01_Nums) (x1 : List Int) (x2 : Int) {α : Type} (K : SV → Mem → Option α) : callBody (table [(23, ⟨args_law16_fixed, mem_law16_fixed, outs_law16_fixed, F_law16_fixed⟩), (28, ⟨args_vote_Change, mem_vote_Change, outs_vote_Change, F_vote_Change⟩), (33, ⟨args_ref16_Once, mem_ref16_Once, outs_ref16_Once, F_ref16_Once⟩), (31, ⟨args_ref01_Nums, mem_ref01_Nums, outs_ref01_Nums, F_ref01_Nums⟩)] []) br_law16_VoteBack rc_law16_VoteBack fd_law16_VoteBack (args_law16_VoteBack.svs (x1, (x2, ()))) (mem_law16_VoteBack.mem ()) K = tree_law16_VoteBack F_law16_fixed F_vote_Change F_ref16_Once F_ref01_Nums x1 x2 (fun r => outsRun outs_law16_VoteBack r K) := by kernel_rfl
noncomputable def C_law16_VoteBack : Con := ⟨args_law16_VoteBack, mem_law16_VoteBack, outs_law16_VoteBack, F_law16_VoteBack⟩
theorem k_law16_VoteBack : Known Try.prog fd_law16_VoteBack [(23, C_law16_fixed), (28, C_vote_Change), (33, C_ref16_Once), (31, C_ref01_Nums)] [] := known_of mixT (by kernel_rfl) ⟨ok_law16_fixed, ok_vote_Change, ok_ref16_Once, ok_ref01_Nums, trivial⟩ trivial
theorem fn_law16_VoteBack : FnOK Try.prog an_law16_VoteBack 10 Try.f10 fd_law16_VoteBack := fnOK (by kernel_rfl) (by kernel_rfl) (by kernel_rfl)
theorem ok_law16_VoteBack : ConOK Try.prog 10 C_law16_VoteBack := con_of k_law16_VoteBack (byRef := br_law16_VoteBack) fn_law16_VoteBack rc_law16_VoteBack args_law16_VoteBack mem_law16_VoteBack outs_law16_VoteBack (fun a b K => tree_law16_VoteBack F_law16_fixed F_vote_Change F_ref16_Once F_ref01_Nums a.1 a.2.1 K) (fun a b => h_law16_VoteBack F_law16_fixed F_vote_Change F_ref16_Once F_ref01_Nums a.1 a.2.1 _) (fun a b K => n_law16_VoteBack F_law16_fixed F_vote_Change F_ref16_Once F_ref01_Nums a.1 a.2.1 K)

end Go.Proofs.Ytjhaidbfahobmaa.S2
