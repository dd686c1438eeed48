/- The program's functions come to their plain forms, by program. -/
import Derived.Test.YtgakbdikappdbaaGreatGwire
import Derived.Test.YtgakbdikappdbaaGreatHbase
set_option maxRecDepth 100000
set_option maxHeartbeats 0
set_option linter.unusedVariables false
set_option linter.unusedSimpArgs false
namespace Go.Proofs.YtgakbdikappdbaaGreat.S2
open Go
def an_wire_put : Nat → LAnn := fun n => (find n [(1, ⟨1, [0, 1], [(.slot 0, 500, 5, (.cons (.int .u8) .nil))], [0, 1, 5, 6, 7, 8, 9, 10, 11, 12, 13, 14], [0, 1]⟩)]).getD ⟨0, [], [], [], []⟩
noncomputable def fd_wire_put : FD := fdOf Tryz.prog an_wire_put Tryz.f85
def br_wire_put : FuncId → CC := fun f => ⟨([] : List Nat).contains f, (find f []).getD [], (find f []).getD []⟩
def rc_wire_put : RC := ⟨true, [], []⟩
theorem hl_wire_put_1 (x1 : Int) (x2 : List Int) {α : Type} (kn : St → Option α) (K : Out → St → Option α) : round (table [] []) br_wire_put (an_wire_put 1) (fd_wire_put.loop 1) kn ⟨ltmps_wire_put_1.svs (x1, ()), lmem_wire_put_1.mem (x2, ())⟩ K = ltree_wire_put_1 x1 x2 (fun a b => kn ⟨ltmps_wire_put_1.svs a, lmem_wire_put_1.mem b⟩) (fun r => outLsRun louts_wire_put_1 r K) := by kernel_rfl
noncomputable def D_wire_put_1 : LCon := ⟨ltmps_wire_put_1, lmem_wire_put_1, louts_wire_put_1, L_wire_put_1⟩
theorem kl_wire_put_1 : Known Tryz.prog fd_wire_put [] [] := known_of mixT (by kernel_rfl) trivial trivial
theorem okl_wire_put_1 : LConOK Tryz.prog (fd_wire_put.loop 1) D_wire_put_1 := lcon_of kl_wire_put_1 (byRef := br_wire_put) (lan := an_wire_put 1) (id := 1) (by kernel_rfl) ltmps_wire_put_1 lmem_wire_put_1 louts_wire_put_1 (fun a b kn kr => ltree_wire_put_1 a.1 b.1 kn kr) (fun a b => hl_wire_put_1 a.1 b.1 _ _) (fun a b kn kr => nl_wire_put_1 a.1 b.1 kn kr)
theorem h_wire_put (L_wire_put_1 : LT_wire_put_1 → LM_wire_put_1 → Option LO_wire_put_1) (x1 : Int) {α : Type} (K : SV → Mem → Option α) : callBody (table [] [(1, ⟨ltmps_wire_put_1, lmem_wire_put_1, louts_wire_put_1, L_wire_put_1⟩)]) br_wire_put rc_wire_put fd_wire_put (args_wire_put.svs (x1, ())) (mem_wire_put.mem ()) K = tree_wire_put L_wire_put_1 x1 (fun r => outsRun outs_wire_put r K) := by kernel_rfl
noncomputable def C_wire_put : Con := ⟨args_wire_put, mem_wire_put, outs_wire_put, F_wire_put⟩
theorem k_wire_put : Known Tryz.prog fd_wire_put [] [(1, D_wire_put_1)] := known_of mixT (by kernel_rfl) trivial ⟨okl_wire_put_1, trivial⟩
theorem fn_wire_put : FnOK Tryz.prog an_wire_put 85 Tryz.f85 fd_wire_put := fnOK (by kernel_rfl) (by kernel_rfl) (by kernel_rfl)
theorem ok_wire_put : ConOK Tryz.prog 85 C_wire_put := con_of k_wire_put (byRef := br_wire_put) fn_wire_put rc_wire_put args_wire_put mem_wire_put outs_wire_put (fun a b K => tree_wire_put L_wire_put_1 a.1 K) (fun a b => h_wire_put L_wire_put_1 a.1 _) (fun a b K => n_wire_put L_wire_put_1 a.1 K)
def an_wire_PutUint : Nat → LAnn := fun n => (find n []).getD ⟨0, [], [], [], []⟩
noncomputable def fd_wire_PutUint : FD := fdOf Tryz.prog an_wire_PutUint Tryz.f68
def br_wire_PutUint : FuncId → CC := fun f => ⟨([] : List Nat).contains f, (find f []).getD [], (find f []).getD []⟩
def rc_wire_PutUint : RC := ⟨true, [], []⟩
theorem h_wire_PutUint (F_wire_put : A_wire_put → M_wire_put → Option O_wire_put) (x1 : Int) {α : Type} (K : SV → Mem → Option α) : callBody (table [(85, ⟨args_wire_put, mem_wire_put, outs_wire_put, F_wire_put⟩)] []) br_wire_PutUint rc_wire_PutUint fd_wire_PutUint (args_wire_PutUint.svs (x1, ())) (mem_wire_PutUint.mem ()) K = tree_wire_PutUint F_wire_put x1 (fun r => outsRun outs_wire_PutUint r K) := by kernel_rfl
noncomputable def C_wire_PutUint : Con := ⟨args_wire_PutUint, mem_wire_PutUint, outs_wire_PutUint, F_wire_PutUint⟩
theorem k_wire_PutUint : Known Tryz.prog fd_wire_PutUint [(85, C_wire_put)] [] := known_of mixT (by kernel_rfl) ⟨ok_wire_put, trivial⟩ trivial
theorem fn_wire_PutUint : FnOK Tryz.prog an_wire_PutUint 68 Tryz.f68 fd_wire_PutUint := fnOK (by kernel_rfl) (by kernel_rfl) (by kernel_rfl)
theorem ok_wire_PutUint : ConOK Tryz.prog 68 C_wire_PutUint := con_of k_wire_PutUint (byRef := br_wire_PutUint) fn_wire_PutUint rc_wire_PutUint args_wire_PutUint mem_wire_PutUint outs_wire_PutUint (fun a b K => tree_wire_PutUint F_wire_put a.1 K) (fun a b => h_wire_PutUint F_wire_put a.1 _) (fun a b K => n_wire_PutUint F_wire_put a.1 K)
end Go.Proofs.YtgakbdikappdbaaGreat.S2
