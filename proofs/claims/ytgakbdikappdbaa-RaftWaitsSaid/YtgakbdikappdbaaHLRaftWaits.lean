/- The program's functions come to their plain forms, by program. -/
import Derived.Test.YtgakbdikappdbaaGLRaftWaits
import Derived.Test.YtgakbdikappdbaaHfix
import Derived.Test.YtgakbdikappdbaaHmay
import Derived.Test.YtgakbdikappdbaaHis
import Derived.Test.YtgakbdikappdbaaHcopy
set_option maxRecDepth 100000
set_option maxHeartbeats 0
set_option linter.unusedVariables false
set_option linter.unusedSimpArgs false
namespace Go.Proofs.Ytgakbdikappdbaa.S2
open Go
def an_law18_RaftWaits : Nat → LAnn := fun n => (find n []).getD ⟨0, [], [], [], []⟩
noncomputable def fd_law18_RaftWaits : FD := fdOf Try.prog an_law18_RaftWaits Try.f4
def br_law18_RaftWaits : FuncId → CC := fun f => ⟨([] : List Nat).contains f, (find f []).getD [], (find f []).getD []⟩
def rc_law18_RaftWaits : RC := ⟨true, [], []⟩
theorem h_law18_RaftWaits (F_law18_fixed : A_law18_fixed → M_law18_fixed → Option O_law18_fixed) (F_ref18_May : A_ref18_May → M_ref18_May → Option O_ref18_May) (F_raft_Tick : A_raft_Tick → M_raft_Tick → Option O_raft_Tick) (F_ref18_Copy : A_ref18_Copy → M_ref18_Copy → Option O_ref18_Copy) (F_ref18_Is : A_ref18_Is → M_ref18_Is → Option O_ref18_Is) (x1 : Int) (x2 : List Int) (x3 : Int) (x4 : Int) (x5 : Int) (x6 : Int) (x7 : List (Int × Int × ByteArray)) (x8 : ByteArray) (x9 : Int) (x10 : Int) (x11 : Int) (x12 : List Int) (x13 : List (Int × Int × Int)) (x14 : Int) (x15 : Int) {α : Type} (K : SV → Mem → Option α) : callBody (table [(5, ⟨args_law18_fixed, mem_law18_fixed, outs_law18_fixed, F_law18_fixed⟩), (6, ⟨args_ref18_May, mem_ref18_May, outs_ref18_May, F_ref18_May⟩), (13, ⟨args_raft_Tick, mem_raft_Tick, outs_raft_Tick, F_raft_Tick⟩), (14, ⟨args_ref18_Copy, mem_ref18_Copy, outs_ref18_Copy, F_ref18_Copy⟩), (10, ⟨args_ref18_Is, mem_ref18_Is, outs_ref18_Is, F_ref18_Is⟩)] []) br_law18_RaftWaits rc_law18_RaftWaits fd_law18_RaftWaits (args_law18_RaftWaits.svs ((x1, (x2, (x3, (x4, (x5, (x6, (x7, (x8, (x9, (x10, (x11, (x12, (x13, (x14, ())))))))))))))), (x15, ()))) (mem_law18_RaftWaits.mem ()) K = tree_law18_RaftWaits F_law18_fixed F_ref18_May F_raft_Tick F_ref18_Copy F_ref18_Is x1 x2 x3 x4 x5 x6 x7 x8 x9 x10 x11 x12 x13 x14 x15 (fun r => outsRun outs_law18_RaftWaits r K) := by kernel_rfl
noncomputable def C_law18_RaftWaits : Con := ⟨args_law18_RaftWaits, mem_law18_RaftWaits, outs_law18_RaftWaits, F_law18_RaftWaits⟩
theorem k_law18_RaftWaits : Known Try.prog fd_law18_RaftWaits [(5, C_law18_fixed), (6, C_ref18_May), (13, C_raft_Tick), (14, C_ref18_Copy), (10, C_ref18_Is)] [] := known_of mixT (by kernel_rfl) ⟨ok_law18_fixed, ok_ref18_May, ok_raft_Tick, ok_ref18_Copy, ok_ref18_Is, trivial⟩ trivial
theorem fn_law18_RaftWaits : FnOK Try.prog an_law18_RaftWaits 4 Try.f4 fd_law18_RaftWaits := fnOK (by kernel_rfl) (by kernel_rfl) (by kernel_rfl)
theorem ok_law18_RaftWaits : ConOK Try.prog 4 C_law18_RaftWaits := con_of k_law18_RaftWaits (byRef := br_law18_RaftWaits) fn_law18_RaftWaits rc_law18_RaftWaits args_law18_RaftWaits mem_law18_RaftWaits outs_law18_RaftWaits (fun a b K => tree_law18_RaftWaits F_law18_fixed F_ref18_May F_raft_Tick F_ref18_Copy F_ref18_Is a.1.1 a.1.2.1 a.1.2.2.1 a.1.2.2.2.1 a.1.2.2.2.2.1 a.1.2.2.2.2.2.1 a.1.2.2.2.2.2.2.1 a.1.2.2.2.2.2.2.2.1 a.1.2.2.2.2.2.2.2.2.1 a.1.2.2.2.2.2.2.2.2.2.1 a.1.2.2.2.2.2.2.2.2.2.2.1 a.1.2.2.2.2.2.2.2.2.2.2.2.1 a.1.2.2.2.2.2.2.2.2.2.2.2.2.1 a.1.2.2.2.2.2.2.2.2.2.2.2.2.2.1 a.2.1 K) (fun a b => h_law18_RaftWaits F_law18_fixed F_ref18_May F_raft_Tick F_ref18_Copy F_ref18_Is a.1.1 a.1.2.1 a.1.2.2.1 a.1.2.2.2.1 a.1.2.2.2.2.1 a.1.2.2.2.2.2.1 a.1.2.2.2.2.2.2.1 a.1.2.2.2.2.2.2.2.1 a.1.2.2.2.2.2.2.2.2.1 a.1.2.2.2.2.2.2.2.2.2.1 a.1.2.2.2.2.2.2.2.2.2.2.1 a.1.2.2.2.2.2.2.2.2.2.2.2.1 a.1.2.2.2.2.2.2.2.2.2.2.2.2.1 a.1.2.2.2.2.2.2.2.2.2.2.2.2.2.1 a.2.1 _) (fun a b K => n_law18_RaftWaits F_law18_fixed F_ref18_May F_raft_Tick F_ref18_Copy F_ref18_Is a.1.1 a.1.2.1 a.1.2.2.1 a.1.2.2.2.1 a.1.2.2.2.2.1 a.1.2.2.2.2.2.1 a.1.2.2.2.2.2.2.1 a.1.2.2.2.2.2.2.2.1 a.1.2.2.2.2.2.2.2.2.1 a.1.2.2.2.2.2.2.2.2.2.1 a.1.2.2.2.2.2.2.2.2.2.2.1 a.1.2.2.2.2.2.2.2.2.2.2.2.1 a.1.2.2.2.2.2.2.2.2.2.2.2.2.1 a.1.2.2.2.2.2.2.2.2.2.2.2.2.2.1 a.2.1 K)
end Go.Proofs.Ytgakbdikappdbaa.S2
