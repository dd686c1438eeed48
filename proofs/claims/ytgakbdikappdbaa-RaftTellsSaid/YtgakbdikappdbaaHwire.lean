/- The program's functions come to their plain forms, by program. -/
import Derived.Test.YtgakbdikappdbaaGwire
import Derived.Test.YtgakbdikappdbaaHbase
set_option maxRecDepth 100000
set_option maxHeartbeats 0
set_option linter.unusedVariables false
set_option linter.unusedSimpArgs false
namespace Go.Proofs.Ytgakbdikappdbaa.S2
open Go
def an_wire_TakeUint : Nat → LAnn := fun n => (find n [(3, ⟨3, [0, 5, 9, 10], [], [2, 3, 4, 5, 6, 7, 10, 11, 12, 13, 14, 15, 16, 17, 18, 19, 20, 21, 22, 23, 24, 25, 26, 27, 28, 29, 30, 31, 32, 33, 34, 35, 36, 37, 38, 39, 40, 41, 42, 43], [2, 3, 4]⟩)]).getD ⟨0, [], [], [], []⟩
noncomputable def fd_wire_TakeUint : FD := fdOf Try.prog an_wire_TakeUint Try.f49
def br_wire_TakeUint : FuncId → CC := fun f => ⟨([] : List Nat).contains f, (find f []).getD [], (find f []).getD []⟩
def rc_wire_TakeUint : RC := ⟨true, [], []⟩
theorem hl_wire_TakeUint_3 (x1 : ByteArray) (x2 : Int) (x3 : Int) (x4 : Int) {α : Type} (kn : St → Option α) (K : Out → St → Option α) : round (table [] []) br_wire_TakeUint (an_wire_TakeUint 3) (fd_wire_TakeUint.loop 3) kn ⟨ltmps_wire_TakeUint_3.svs (x1, (x2, (x3, (x4, ())))), lmem_wire_TakeUint_3.mem ()⟩ K = ltree_wire_TakeUint_3 x1 x2 x3 x4 (fun a b => kn ⟨ltmps_wire_TakeUint_3.svs a, lmem_wire_TakeUint_3.mem b⟩) (fun r => outLsRun louts_wire_TakeUint_3 r K) := by kernel_rfl
noncomputable def D_wire_TakeUint_3 : LCon := ⟨ltmps_wire_TakeUint_3, lmem_wire_TakeUint_3, louts_wire_TakeUint_3, L_wire_TakeUint_3⟩
theorem kl_wire_TakeUint_3 : Known Try.prog fd_wire_TakeUint [] [] := known_of mixT (by kernel_rfl) trivial trivial
theorem okl_wire_TakeUint_3 : LConOK Try.prog (fd_wire_TakeUint.loop 3) D_wire_TakeUint_3 := lcon_of kl_wire_TakeUint_3 (byRef := br_wire_TakeUint) (lan := an_wire_TakeUint 3) (id := 3) (by kernel_rfl) ltmps_wire_TakeUint_3 lmem_wire_TakeUint_3 louts_wire_TakeUint_3 (fun a b kn kr => ltree_wire_TakeUint_3 a.1 a.2.1 a.2.2.1 a.2.2.2.1 kn kr) (fun a b => hl_wire_TakeUint_3 a.1 a.2.1 a.2.2.1 a.2.2.2.1 _ _) (fun a b kn kr => nl_wire_TakeUint_3 a.1 a.2.1 a.2.2.1 a.2.2.2.1 kn kr)
theorem h_wire_TakeUint (L_wire_TakeUint_3 : LT_wire_TakeUint_3 → LM_wire_TakeUint_3 → Option LO_wire_TakeUint_3) (x1 : ByteArray) {α : Type} (K : SV → Mem → Option α) : callBody (table [] [(3, ⟨ltmps_wire_TakeUint_3, lmem_wire_TakeUint_3, louts_wire_TakeUint_3, L_wire_TakeUint_3⟩)]) br_wire_TakeUint rc_wire_TakeUint fd_wire_TakeUint (args_wire_TakeUint.svs (x1, ())) (mem_wire_TakeUint.mem ()) K = tree_wire_TakeUint L_wire_TakeUint_3 x1 (fun r => outsRun outs_wire_TakeUint r K) := by kernel_rfl
noncomputable def C_wire_TakeUint : Con := ⟨args_wire_TakeUint, mem_wire_TakeUint, outs_wire_TakeUint, F_wire_TakeUint⟩
theorem k_wire_TakeUint : Known Try.prog fd_wire_TakeUint [] [(3, D_wire_TakeUint_3)] := known_of mixT (by kernel_rfl) trivial ⟨okl_wire_TakeUint_3, trivial⟩
theorem fn_wire_TakeUint : FnOK Try.prog an_wire_TakeUint 49 Try.f49 fd_wire_TakeUint := fnOK (by kernel_rfl) (by kernel_rfl) (by kernel_rfl)
theorem ok_wire_TakeUint : ConOK Try.prog 49 C_wire_TakeUint := con_of k_wire_TakeUint (byRef := br_wire_TakeUint) fn_wire_TakeUint rc_wire_TakeUint args_wire_TakeUint mem_wire_TakeUint outs_wire_TakeUint (fun a b K => tree_wire_TakeUint L_wire_TakeUint_3 a.1 K) (fun a b => h_wire_TakeUint L_wire_TakeUint_3 a.1 _) (fun a b K => n_wire_TakeUint L_wire_TakeUint_3 a.1 K)
def an_wire_many : Nat → LAnn := fun n => (find n []).getD ⟨0, [], [], [], []⟩
noncomputable def fd_wire_many : FD := fdOf Try.prog an_wire_many Try.f48
def br_wire_many : FuncId → CC := fun f => ⟨([] : List Nat).contains f, (find f []).getD [], (find f []).getD []⟩
def rc_wire_many : RC := ⟨true, [], []⟩
theorem h_wire_many (F_wire_TakeUint : A_wire_TakeUint → M_wire_TakeUint → Option O_wire_TakeUint) (x1 : ByteArray) (x2 : Int) {α : Type} (K : SV → Mem → Option α) : callBody (table [(49, ⟨args_wire_TakeUint, mem_wire_TakeUint, outs_wire_TakeUint, F_wire_TakeUint⟩)] []) br_wire_many rc_wire_many fd_wire_many (args_wire_many.svs (x1, (x2, ()))) (mem_wire_many.mem ()) K = tree_wire_many F_wire_TakeUint x1 x2 (fun r => outsRun outs_wire_many r K) := by kernel_rfl
noncomputable def C_wire_many : Con := ⟨args_wire_many, mem_wire_many, outs_wire_many, F_wire_many⟩
theorem k_wire_many : Known Try.prog fd_wire_many [(49, C_wire_TakeUint)] [] := known_of mixT (by kernel_rfl) ⟨ok_wire_TakeUint, trivial⟩ trivial
theorem fn_wire_many : FnOK Try.prog an_wire_many 48 Try.f48 fd_wire_many := fnOK (by kernel_rfl) (by kernel_rfl) (by kernel_rfl)
theorem ok_wire_many : ConOK Try.prog 48 C_wire_many := con_of k_wire_many (byRef := br_wire_many) fn_wire_many rc_wire_many args_wire_many mem_wire_many outs_wire_many (fun a b K => tree_wire_many F_wire_TakeUint a.1 a.2.1 K) (fun a b => h_wire_many F_wire_TakeUint a.1 a.2.1 _) (fun a b K => n_wire_many F_wire_TakeUint a.1 a.2.1 K)
def an_wire_TakeNums : Nat → LAnn := fun n => (find n [(6, ⟨6, [8, 10, 21, 22], [(.slot 10, 510, 22, (.cons (.int .u64) .nil))], [4, 5, 6, 8, 9, 10, 11, 22, 23, 24, 25, 26, 27, 28, 29, 30, 31, 32, 33, 34, 35, 36], [4, 5, 6, 8, 10]⟩)]).getD ⟨0, [], [], [], []⟩
noncomputable def fd_wire_TakeNums : FD := fdOf Try.prog an_wire_TakeNums Try.f30
def br_wire_TakeNums : FuncId → CC := fun f => ⟨([] : List Nat).contains f, (find f []).getD [], (find f []).getD []⟩
def rc_wire_TakeNums : RC := ⟨true, [], []⟩
theorem hl_wire_TakeNums_6 (F_wire_many : A_wire_many → M_wire_many → Option O_wire_many) (F_wire_TakeUint : A_wire_TakeUint → M_wire_TakeUint → Option O_wire_TakeUint) (x1 : ByteArray) (x2 : Int) (x3 : Int) (x4 : List Int) {α : Type} (kn : St → Option α) (K : Out → St → Option α) : round (table [(48, ⟨args_wire_many, mem_wire_many, outs_wire_many, F_wire_many⟩), (49, ⟨args_wire_TakeUint, mem_wire_TakeUint, outs_wire_TakeUint, F_wire_TakeUint⟩)] []) br_wire_TakeNums (an_wire_TakeNums 6) (fd_wire_TakeNums.loop 6) kn ⟨ltmps_wire_TakeNums_6.svs (x1, (x2, (x3, ()))), lmem_wire_TakeNums_6.mem (x4, ())⟩ K = ltree_wire_TakeNums_6 F_wire_TakeUint x1 x2 x3 x4 (fun a b => kn ⟨ltmps_wire_TakeNums_6.svs a, lmem_wire_TakeNums_6.mem b⟩) (fun r => outLsRun louts_wire_TakeNums_6 r K) := by kernel_rfl
noncomputable def D_wire_TakeNums_6 : LCon := ⟨ltmps_wire_TakeNums_6, lmem_wire_TakeNums_6, louts_wire_TakeNums_6, L_wire_TakeNums_6⟩
theorem kl_wire_TakeNums_6 : Known Try.prog fd_wire_TakeNums [(48, C_wire_many), (49, C_wire_TakeUint)] [] := known_of mixT (by kernel_rfl) ⟨ok_wire_many, ok_wire_TakeUint, trivial⟩ trivial
theorem okl_wire_TakeNums_6 : LConOK Try.prog (fd_wire_TakeNums.loop 6) D_wire_TakeNums_6 := lcon_of kl_wire_TakeNums_6 (byRef := br_wire_TakeNums) (lan := an_wire_TakeNums 6) (id := 6) (by kernel_rfl) ltmps_wire_TakeNums_6 lmem_wire_TakeNums_6 louts_wire_TakeNums_6 (fun a b kn kr => ltree_wire_TakeNums_6 F_wire_TakeUint a.1 a.2.1 a.2.2.1 b.1 kn kr) (fun a b => hl_wire_TakeNums_6 F_wire_many F_wire_TakeUint a.1 a.2.1 a.2.2.1 b.1 _ _) (fun a b kn kr => nl_wire_TakeNums_6 F_wire_TakeUint a.1 a.2.1 a.2.2.1 b.1 kn kr)
theorem h_wire_TakeNums (F_wire_many : A_wire_many → M_wire_many → Option O_wire_many) (F_wire_TakeUint : A_wire_TakeUint → M_wire_TakeUint → Option O_wire_TakeUint) (L_wire_TakeNums_6 : LT_wire_TakeNums_6 → LM_wire_TakeNums_6 → Option LO_wire_TakeNums_6) (x1 : ByteArray) (x2 : Int) {α : Type} (K : SV → Mem → Option α) : callBody (table [(48, ⟨args_wire_many, mem_wire_many, outs_wire_many, F_wire_many⟩), (49, ⟨args_wire_TakeUint, mem_wire_TakeUint, outs_wire_TakeUint, F_wire_TakeUint⟩)] [(6, ⟨ltmps_wire_TakeNums_6, lmem_wire_TakeNums_6, louts_wire_TakeNums_6, L_wire_TakeNums_6⟩)]) br_wire_TakeNums rc_wire_TakeNums fd_wire_TakeNums (args_wire_TakeNums.svs (x1, (x2, ()))) (mem_wire_TakeNums.mem ()) K = tree_wire_TakeNums F_wire_many L_wire_TakeNums_6 x1 x2 (fun r => outsRun outs_wire_TakeNums r K) := by kernel_rfl
noncomputable def C_wire_TakeNums : Con := ⟨args_wire_TakeNums, mem_wire_TakeNums, outs_wire_TakeNums, F_wire_TakeNums⟩
theorem k_wire_TakeNums : Known Try.prog fd_wire_TakeNums [(48, C_wire_many), (49, C_wire_TakeUint)] [(6, D_wire_TakeNums_6)] := known_of mixT (by kernel_rfl) ⟨ok_wire_many, ok_wire_TakeUint, trivial⟩ ⟨okl_wire_TakeNums_6, trivial⟩
theorem fn_wire_TakeNums : FnOK Try.prog an_wire_TakeNums 30 Try.f30 fd_wire_TakeNums := fnOK (by kernel_rfl) (by kernel_rfl) (by kernel_rfl)
theorem ok_wire_TakeNums : ConOK Try.prog 30 C_wire_TakeNums := con_of k_wire_TakeNums (byRef := br_wire_TakeNums) fn_wire_TakeNums rc_wire_TakeNums args_wire_TakeNums mem_wire_TakeNums outs_wire_TakeNums (fun a b K => tree_wire_TakeNums F_wire_many L_wire_TakeNums_6 a.1 a.2.1 K) (fun a b => h_wire_TakeNums F_wire_many F_wire_TakeUint L_wire_TakeNums_6 a.1 a.2.1 _) (fun a b K => n_wire_TakeNums F_wire_many L_wire_TakeNums_6 a.1 a.2.1 K)
end Go.Proofs.Ytgakbdikappdbaa.S2
