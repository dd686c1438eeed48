/- The program's functions come to their plain forms, by program. -/
import Derived.Test.YtjhaidbfahobmaaGLVoteAsks
import Derived.Test.YtjhaidbfahobmaaHlaw16
import Derived.Test.YtjhaidbfahobmaaHrref
set_option maxRecDepth 100000
set_option maxHeartbeats 0
set_option linter.unusedVariables false
set_option linter.unusedSimpArgs false
namespace Go.Proofs.Ytjhaidbfahobmaa.S2
open Go
def an_law16_VoteAsks : Nat → LAnn := fun n => (find n []).getD ⟨0, [], [], [], []⟩
noncomputable def fd_law16_VoteAsks : FD := fdOf Try.prog an_law16_VoteAsks Try.f6
def br_law16_VoteAsks : FuncId → CC := fun f => ⟨([] : List Nat).contains f, (find f []).getD [], (find f []).getD []⟩
def rc_law16_VoteAsks : RC := ⟨true, [], []⟩
theorem h_law16_VoteAsks (F_law16_fixed : A_law16_fixed → M_law16_fixed → Option O_law16_fixed) (F_ref15_May : A_ref15_May → M_ref15_May → Option O_ref15_May) (F_vote_Ask : A_vote_Ask → M_vote_Ask → Option O_vote_Ask) (F_ref16_Ask : A_ref16_Ask → M_ref16_Ask → Option O_ref16_Ask) (F_vote_Seen : A_vote_Seen → M_vote_Seen → Option O_vote_Seen) (F_ref16_Seen : A_ref16_Seen → M_ref16_Seen → Option O_ref16_Seen) (x1 : Int) (x2 : Int) (x3 : Int) (x4 : Int) (x5 : List (Int × Int × ByteArray)) (x6 : Int) (x7 : Int) (x8 : Int) (x9 : Int) {α : Type} (K : SV → Mem → Option α) : callBody (table [(23, ⟨args_law16_fixed, mem_law16_fixed, outs_law16_fixed, F_law16_fixed⟩), (13, ⟨args_ref15_May, mem_ref15_May, outs_ref15_May, F_ref15_May⟩), (24, ⟨args_vote_Ask, mem_vote_Ask, outs_vote_Ask, F_vote_Ask⟩), (25, ⟨args_ref16_Ask, mem_ref16_Ask, outs_ref16_Ask, F_ref16_Ask⟩), (26, ⟨args_vote_Seen, mem_vote_Seen, outs_vote_Seen, F_vote_Seen⟩), (27, ⟨args_ref16_Seen, mem_ref16_Seen, outs_ref16_Seen, F_ref16_Seen⟩)] []) br_law16_VoteAsks rc_law16_VoteAsks fd_law16_VoteAsks (args_law16_VoteAsks.svs ((x1, (x2, ())), ((x3, (x4, (x5, ()))), ((x6, (x7, (x8, (x9, ())))), ())))) (mem_law16_VoteAsks.mem ()) K = tree_law16_VoteAsks F_law16_fixed F_ref15_May F_vote_Ask F_ref16_Ask F_vote_Seen F_ref16_Seen x1 x2 x3 x4 x5 x6 x7 x8 x9 (fun r => outsRun outs_law16_VoteAsks r K) := by kernel_rfl
noncomputable def C_law16_VoteAsks : Con := ⟨args_law16_VoteAsks, mem_law16_VoteAsks, outs_law16_VoteAsks, F_law16_VoteAsks⟩
theorem k_law16_VoteAsks : Known Try.prog fd_law16_VoteAsks [(23, C_law16_fixed), (13, C_ref15_May), (24, C_vote_Ask), (25, C_ref16_Ask), (26, C_vote_Seen), (27, C_ref16_Seen)] [] := known_of mixT (by kernel_rfl) ⟨ok_law16_fixed, ok_ref15_May, ok_vote_Ask, ok_ref16_Ask, ok_vote_Seen, ok_ref16_Seen, trivial⟩ trivial
theorem fn_law16_VoteAsks : FnOK Try.prog an_law16_VoteAsks 6 Try.f6 fd_law16_VoteAsks := fnOK (by kernel_rfl) (by kernel_rfl) (by kernel_rfl)
theorem ok_law16_VoteAsks : ConOK Try.prog 6 C_law16_VoteAsks := con_of k_law16_VoteAsks (byRef := br_law16_VoteAsks) fn_law16_VoteAsks rc_law16_VoteAsks args_law16_VoteAsks mem_law16_VoteAsks outs_law16_VoteAsks (fun a b K => tree_law16_VoteAsks F_law16_fixed F_ref15_May F_vote_Ask F_ref16_Ask F_vote_Seen F_ref16_Seen a.1.1 a.1.2.1 a.2.1.1 a.2.1.2.1 a.2.1.2.2.1 a.2.2.1.1 a.2.2.1.2.1 a.2.2.1.2.2.1 a.2.2.1.2.2.2.1 K) (fun a b => h_law16_VoteAsks F_law16_fixed F_ref15_May F_vote_Ask F_ref16_Ask F_vote_Seen F_ref16_Seen a.1.1 a.1.2.1 a.2.1.1 a.2.1.2.1 a.2.1.2.2.1 a.2.2.1.1 a.2.2.1.2.1 a.2.2.1.2.2.1 a.2.2.1.2.2.2.1 _) (fun a b K => n_law16_VoteAsks F_law16_fixed F_ref15_May F_vote_Ask F_ref16_Ask F_vote_Seen F_ref16_Seen a.1.1 a.1.2.1 a.2.1.1 a.2.1.2.1 a.2.1.2.2.1 a.2.2.1.1 a.2.2.1.2.1 a.2.2.1.2.2.1 a.2.2.1.2.2.2.1 K)

end Go.Proofs.Ytjhaidbfahobmaa.S2
