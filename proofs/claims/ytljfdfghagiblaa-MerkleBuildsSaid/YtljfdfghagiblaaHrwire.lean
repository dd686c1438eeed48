/- The program's functions come to their plain forms, by program. -/
import Derived.Test.YtljfdfghagiblaaGrwire
import Derived.Test.YtljfdfghagiblaaHbase
set_option maxRecDepth 100000
set_option maxHeartbeats 0
set_option linter.unusedVariables false
set_option linter.unusedSimpArgs false
namespace Go.Proofs.Ytljfdfghagiblaa.S2
open Go
def an_ref01_PutUint : Nat → LAnn := fun n => (find n [(2, ⟨2, [0, 3], [(.slot 3, 503, 5, (.cons (.int .u8) .nil))], [0, 3, 5, 6, 7, 8, 9, 10, 11, 12, 13, 14, 15], [0, 3]⟩)]).getD ⟨0, [], [], [], []⟩
noncomputable def fd_ref01_PutUint : FD := fdOf Try.prog an_ref01_PutUint Try.f57
def br_ref01_PutUint : FuncId → CC := fun f => ⟨([] : List Nat).contains f, (find f []).getD [], (find f []).getD []⟩
def rc_ref01_PutUint : RC := ⟨true, [], []⟩
theorem hl_ref01_PutUint_2 (x1 : Int) (x2 : List Int) {α : Type} (kn : St → Option α) (K : Out → St → Option α) : round (table [] []) br_ref01_PutUint (an_ref01_PutUint 2) (fd_ref01_PutUint.loop 2) kn ⟨ltmps_ref01_PutUint_2.svs (x1, ()), lmem_ref01_PutUint_2.mem (x2, ())⟩ K = ltree_ref01_PutUint_2 x1 x2 (fun a b => kn ⟨ltmps_ref01_PutUint_2.svs a, lmem_ref01_PutUint_2.mem b⟩) (fun r => outLsRun louts_ref01_PutUint_2 r K) := by kernel_rfl
noncomputable def D_ref01_PutUint_2 : LCon := ⟨ltmps_ref01_PutUint_2, lmem_ref01_PutUint_2, louts_ref01_PutUint_2, L_ref01_PutUint_2⟩
theorem kl_ref01_PutUint_2 : Known Try.prog fd_ref01_PutUint [] [] := known_of mixT (by kernel_rfl) trivial trivial
theorem okl_ref01_PutUint_2 : LConOK Try.prog (fd_ref01_PutUint.loop 2) D_ref01_PutUint_2 := lcon_of kl_ref01_PutUint_2 (byRef := br_ref01_PutUint) (lan := an_ref01_PutUint 2) (id := 2) (by kernel_rfl) ltmps_ref01_PutUint_2 lmem_ref01_PutUint_2 louts_ref01_PutUint_2 (fun a b kn kr => ltree_ref01_PutUint_2 a.1 b.1 kn kr) (fun a b => hl_ref01_PutUint_2 a.1 b.1 _ _) (fun a b kn kr => nl_ref01_PutUint_2 a.1 b.1 kn kr)
theorem h_ref01_PutUint (L_ref01_PutUint_2 : LT_ref01_PutUint_2 → LM_ref01_PutUint_2 → Option LO_ref01_PutUint_2) (x1 : Int) {α : Type} (K : SV → Mem → Option α) : callBody (table [] [(2, ⟨ltmps_ref01_PutUint_2, lmem_ref01_PutUint_2, louts_ref01_PutUint_2, L_ref01_PutUint_2⟩)]) br_ref01_PutUint rc_ref01_PutUint fd_ref01_PutUint (args_ref01_PutUint.svs (x1, ())) (mem_ref01_PutUint.mem ()) K = tree_ref01_PutUint L_ref01_PutUint_2 x1 (fun r => outsRun outs_ref01_PutUint r K) := by kernel_rfl
noncomputable def C_ref01_PutUint : Con := ⟨args_ref01_PutUint, mem_ref01_PutUint, outs_ref01_PutUint, F_ref01_PutUint⟩
theorem k_ref01_PutUint : Known Try.prog fd_ref01_PutUint [] [(2, D_ref01_PutUint_2)] := known_of mixT (by kernel_rfl) trivial ⟨okl_ref01_PutUint_2, trivial⟩
theorem fn_ref01_PutUint : FnOK Try.prog an_ref01_PutUint 57 Try.f57 fd_ref01_PutUint := fnOK (by kernel_rfl) (by kernel_rfl) (by kernel_rfl)
theorem ok_ref01_PutUint : ConOK Try.prog 57 C_ref01_PutUint := con_of k_ref01_PutUint (byRef := br_ref01_PutUint) fn_ref01_PutUint rc_ref01_PutUint args_ref01_PutUint mem_ref01_PutUint outs_ref01_PutUint (fun a b K => tree_ref01_PutUint L_ref01_PutUint_2 a.1 K) (fun a b => h_ref01_PutUint L_ref01_PutUint_2 a.1 _) (fun a b K => n_ref01_PutUint L_ref01_PutUint_2 a.1 K)

end Go.Proofs.Ytljfdfghagiblaa.S2
