/- The program's functions come to their plain forms, by program. -/
import Derived.Test.YtjhaidbfahobmaaGLReplBack
import Derived.Test.YtjhaidbfahobmaaHlaw17
set_option maxRecDepth 100000
set_option maxHeartbeats 0
set_option linter.unusedVariables false
set_option linter.unusedSimpArgs false
namespace Go.Proofs.Ytjhaidbfahobmaa.S2
open Go
def an_law17_ReplBack : Nat → LAnn := fun n => (find n []).getD ⟨0, [], [], [], []⟩
noncomputable def fd_law17_ReplBack : FD := fdOf Try.prog an_law17_ReplBack Try.f5
def br_law17_ReplBack : FuncId → CC := fun f => ⟨([] : List Nat).contains f, (find f []).getD [], (find f []).getD []⟩
def rc_law17_ReplBack : RC := ⟨true, [], []⟩
theorem h_law17_ReplBack (F_repl_Back : A_repl_Back → M_repl_Back → Option O_repl_Back) (F_law17_fixed : A_law17_fixed → M_law17_fixed → Option O_law17_fixed) (x1 : Int) (x2 : Int) {α : Type} (K : SV → Mem → Option α) : callBody (table [(19, ⟨args_repl_Back, mem_repl_Back, outs_repl_Back, F_repl_Back⟩), (12, ⟨args_law17_fixed, mem_law17_fixed, outs_law17_fixed, F_law17_fixed⟩)] []) br_law17_ReplBack rc_law17_ReplBack fd_law17_ReplBack (args_law17_ReplBack.svs (x1, (x2, ()))) (mem_law17_ReplBack.mem ()) K = tree_law17_ReplBack F_repl_Back F_law17_fixed x1 x2 (fun r => outsRun outs_law17_ReplBack r K) := by kernel_rfl
noncomputable def C_law17_ReplBack : Con := ⟨args_law17_ReplBack, mem_law17_ReplBack, outs_law17_ReplBack, F_law17_ReplBack⟩
theorem k_law17_ReplBack : Known Try.prog fd_law17_ReplBack [(19, C_repl_Back), (12, C_law17_fixed)] [] := known_of mixT (by kernel_rfl) ⟨ok_repl_Back, ok_law17_fixed, trivial⟩ trivial
theorem fn_law17_ReplBack : FnOK Try.prog an_law17_ReplBack 5 Try.f5 fd_law17_ReplBack := fnOK (by kernel_rfl) (by kernel_rfl) (by kernel_rfl)
theorem ok_law17_ReplBack : ConOK Try.prog 5 C_law17_ReplBack := con_of k_law17_ReplBack (byRef := br_law17_ReplBack) fn_law17_ReplBack rc_law17_ReplBack args_law17_ReplBack mem_law17_ReplBack outs_law17_ReplBack (fun a b K => tree_law17_ReplBack F_repl_Back F_law17_fixed a.1 a.2.1 K) (fun a b => h_law17_ReplBack F_repl_Back F_law17_fixed a.1 a.2.1 _) (fun a b K => n_law17_ReplBack F_repl_Back F_law17_fixed a.1 a.2.1 K)

end Go.Proofs.Ytjhaidbfahobmaa.S2
