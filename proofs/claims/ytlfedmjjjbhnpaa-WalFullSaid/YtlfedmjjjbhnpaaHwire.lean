/- The program's functions come to their plain forms, by program. -/
import Derived.Test.YtlfedmjjjbhnpaaGwire
import Derived.Test.YtlfedmjjjbhnpaaHbase
set_option maxRecDepth 100000
set_option maxHeartbeats 0
set_option linter.unusedVariables false
set_option linter.unusedSimpArgs false
namespace Go.Proofs.Ytlfedmjjjbhnpaa.S2
open Go
def an_wire_put : Nat → LAnn := fun n => (find n [(1, ⟨1, [0, 1], [(.slot 0, 500, 5, (.cons (.int .u8) .nil))], [0, 1, 5, 6, 7, 8, 9, 10, 11, 12, 13, 14], [0, 1]⟩)]).getD ⟨0, [], [], [], []⟩
noncomputable def fd_wire_put : FD := fdOf Try.prog an_wire_put Try.f83
def br_wire_put : FuncId → CC := fun f => ⟨([] : List Nat).contains f, (find f []).getD [], (find f []).getD []⟩
def rc_wire_put : RC := ⟨true, [], []⟩
theorem hl_wire_put_1 (x1 : Int) (x2 : List Int) {α : Type} (kn : St → Option α) (K : Out → St → Option α) : round (table [] []) br_wire_put (an_wire_put 1) (fd_wire_put.loop 1) kn ⟨ltmps_wire_put_1.svs (x1, ()), lmem_wire_put_1.mem (x2, ())⟩ K = ltree_wire_put_1 x1 x2 (fun a b => kn ⟨ltmps_wire_put_1.svs a, lmem_wire_put_1.mem b⟩) (fun r => outLsRun louts_wire_put_1 r K) := by kernel_rfl
noncomputable def D_wire_put_1 : LCon := ⟨ltmps_wire_put_1, lmem_wire_put_1, louts_wire_put_1, L_wire_put_1⟩
theorem kl_wire_put_1 : Known Try.prog fd_wire_put [] [] := known_of mixT (by kernel_rfl) trivial trivial
theorem okl_wire_put_1 : LConOK Try.prog (fd_wire_put.loop 1) D_wire_put_1 := lcon_of kl_wire_put_1 (byRef := br_wire_put) (lan := an_wire_put 1) (id := 1) (by kernel_rfl) ltmps_wire_put_1 lmem_wire_put_1 louts_wire_put_1 (fun a b kn kr => ltree_wire_put_1 a.1 b.1 kn kr) (fun a b => hl_wire_put_1 a.1 b.1 _ _) (fun a b kn kr => nl_wire_put_1 a.1 b.1 kn kr)
theorem h_wire_put (L_wire_put_1 : LT_wire_put_1 → LM_wire_put_1 → Option LO_wire_put_1) (x1 : Int) {α : Type} (K : SV → Mem → Option α) : callBody (table [] [(1, ⟨ltmps_wire_put_1, lmem_wire_put_1, louts_wire_put_1, L_wire_put_1⟩)]) br_wire_put rc_wire_put fd_wire_put (args_wire_put.svs (x1, ())) (mem_wire_put.mem ()) K = tree_wire_put L_wire_put_1 x1 (fun r => outsRun outs_wire_put r K) := by kernel_rfl
noncomputable def C_wire_put : Con := ⟨args_wire_put, mem_wire_put, outs_wire_put, F_wire_put⟩
theorem k_wire_put : Known Try.prog fd_wire_put [] [(1, D_wire_put_1)] := known_of mixT (by kernel_rfl) trivial ⟨okl_wire_put_1, trivial⟩
theorem fn_wire_put : FnOK Try.prog an_wire_put 83 Try.f83 fd_wire_put := fnOK (by kernel_rfl) (by kernel_rfl) (by kernel_rfl)
theorem ok_wire_put : ConOK Try.prog 83 C_wire_put := con_of k_wire_put (byRef := br_wire_put) fn_wire_put rc_wire_put args_wire_put mem_wire_put outs_wire_put (fun a b K => tree_wire_put L_wire_put_1 a.1 K) (fun a b => h_wire_put L_wire_put_1 a.1 _) (fun a b K => n_wire_put L_wire_put_1 a.1 K)

def an_wire_PutUint : Nat → LAnn := fun n => (find n []).getD ⟨0, [], [], [], []⟩
noncomputable def fd_wire_PutUint : FD := fdOf Try.prog an_wire_PutUint Try.f52
def br_wire_PutUint : FuncId → CC := fun f => ⟨([] : List Nat).contains f, (find f []).getD [], (find f []).getD []⟩
def rc_wire_PutUint : RC := ⟨true, [], []⟩
theorem h_wire_PutUint (F_wire_put : A_wire_put → M_wire_put → Option O_wire_put) (x1 : Int) {α : Type} (K : SV → Mem → Option α) : callBody (table [(83, ⟨args_wire_put, mem_wire_put, outs_wire_put, F_wire_put⟩)] []) br_wire_PutUint rc_wire_PutUint fd_wire_PutUint (args_wire_PutUint.svs (x1, ())) (mem_wire_PutUint.mem ()) K = tree_wire_PutUint F_wire_put x1 (fun r => outsRun outs_wire_PutUint r K) := by kernel_rfl
noncomputable def C_wire_PutUint : Con := ⟨args_wire_PutUint, mem_wire_PutUint, outs_wire_PutUint, F_wire_PutUint⟩
theorem k_wire_PutUint : Known Try.prog fd_wire_PutUint [(83, C_wire_put)] [] := known_of mixT (by kernel_rfl) ⟨ok_wire_put, trivial⟩ trivial
theorem fn_wire_PutUint : FnOK Try.prog an_wire_PutUint 52 Try.f52 fd_wire_PutUint := fnOK (by kernel_rfl) (by kernel_rfl) (by kernel_rfl)
theorem ok_wire_PutUint : ConOK Try.prog 52 C_wire_PutUint := con_of k_wire_PutUint (byRef := br_wire_PutUint) fn_wire_PutUint rc_wire_PutUint args_wire_PutUint mem_wire_PutUint outs_wire_PutUint (fun a b K => tree_wire_PutUint F_wire_put a.1 K) (fun a b => h_wire_PutUint F_wire_put a.1 _) (fun a b K => n_wire_PutUint F_wire_put a.1 K)

def an_wire_PutText : Nat → LAnn := fun n => (find n []).getD ⟨0, [], [], [], []⟩
noncomputable def fd_wire_PutText : FD := fdOf Try.prog an_wire_PutText Try.f69
def br_wire_PutText : FuncId → CC := fun f => ⟨([] : List Nat).contains f, (find f []).getD [], (find f []).getD []⟩
def rc_wire_PutText : RC := ⟨true, [], []⟩
theorem h_wire_PutText (F_wire_PutUint : A_wire_PutUint → M_wire_PutUint → Option O_wire_PutUint) (x1 : ByteArray) {α : Type} (K : SV → Mem → Option α) : callBody (table [(52, ⟨args_wire_PutUint, mem_wire_PutUint, outs_wire_PutUint, F_wire_PutUint⟩)] []) br_wire_PutText rc_wire_PutText fd_wire_PutText (args_wire_PutText.svs (x1, ())) (mem_wire_PutText.mem ()) K = tree_wire_PutText F_wire_PutUint x1 (fun r => outsRun outs_wire_PutText r K) := by kernel_rfl
noncomputable def C_wire_PutText : Con := ⟨args_wire_PutText, mem_wire_PutText, outs_wire_PutText, F_wire_PutText⟩
theorem k_wire_PutText : Known Try.prog fd_wire_PutText [(52, C_wire_PutUint)] [] := known_of mixT (by kernel_rfl) ⟨ok_wire_PutUint, trivial⟩ trivial
theorem fn_wire_PutText : FnOK Try.prog an_wire_PutText 69 Try.f69 fd_wire_PutText := fnOK (by kernel_rfl) (by kernel_rfl) (by kernel_rfl)
theorem ok_wire_PutText : ConOK Try.prog 69 C_wire_PutText := con_of k_wire_PutText (byRef := br_wire_PutText) fn_wire_PutText rc_wire_PutText args_wire_PutText mem_wire_PutText outs_wire_PutText (fun a b K => tree_wire_PutText F_wire_PutUint a.1 K) (fun a b => h_wire_PutText F_wire_PutUint a.1 _) (fun a b K => n_wire_PutText F_wire_PutUint a.1 K)

def an_wire_TakeUint : Nat → LAnn := fun n => (find n [(3, ⟨3, [0, 5, 9, 10], [], [2, 3, 4, 5, 6, 7, 10, 11, 12, 13, 14, 15, 16, 17, 18, 19, 20, 21, 22, 23, 24, 25, 26, 27, 28, 29, 30, 31, 32, 33, 34, 35, 36, 37, 38, 39, 40, 41, 42, 43], [2, 3, 4]⟩)]).getD ⟨0, [], [], [], []⟩
noncomputable def fd_wire_TakeUint : FD := fdOf Try.prog an_wire_TakeUint Try.f64
def br_wire_TakeUint : FuncId → CC := fun f => ⟨([] : List Nat).contains f, (find f []).getD [], (find f []).getD []⟩
def rc_wire_TakeUint : RC := ⟨true, [], []⟩
theorem hl_wire_TakeUint_3 (x1 : ByteArray) (x2 : Int) (x3 : Int) (x4 : Int) {α : Type} (kn : St → Option α) (K : Out → St → Option α) : round (table [] []) br_wire_TakeUint (an_wire_TakeUint 3) (fd_wire_TakeUint.loop 3) kn ⟨ltmps_wire_TakeUint_3.svs (x1, (x2, (x3, (x4, ())))), lmem_wire_TakeUint_3.mem ()⟩ K = ltree_wire_TakeUint_3 x1 x2 x3 x4 (fun a b => kn ⟨ltmps_wire_TakeUint_3.svs a, lmem_wire_TakeUint_3.mem b⟩) (fun r => outLsRun louts_wire_TakeUint_3 r K) := by kernel_rfl
noncomputable def D_wire_TakeUint_3 : LCon := ⟨ltmps_wire_TakeUint_3, lmem_wire_TakeUint_3, louts_wire_TakeUint_3, L_wire_TakeUint_3⟩
theorem kl_wire_TakeUint_3 : Known Try.prog fd_wire_TakeUint [] [] := known_of mixT (by kernel_rfl) trivial trivial
theorem okl_wire_TakeUint_3 : LConOK Try.prog (fd_wire_TakeUint.loop 3) D_wire_TakeUint_3 := lcon_of kl_wire_TakeUint_3 (byRef := br_wire_TakeUint) (lan := an_wire_TakeUint 3) (id := 3) (by kernel_rfl) ltmps_wire_TakeUint_3 lmem_wire_TakeUint_3 louts_wire_TakeUint_3 (fun a b kn kr => ltree_wire_TakeUint_3 a.1 a.2.1 a.2.2.1 a.2.2.2.1 kn kr) (fun a b => hl_wire_TakeUint_3 a.1 a.2.1 a.2.2.1 a.2.2.2.1 _ _) (fun a b kn kr => nl_wire_TakeUint_3 a.1 a.2.1 a.2.2.1 a.2.2.2.1 kn kr)
theorem h_wire_TakeUint (L_wire_TakeUint_3 : LT_wire_TakeUint_3 → LM_wire_TakeUint_3 → Option LO_wire_TakeUint_3) (x1 : ByteArray) {α : Type} (K : SV → Mem → Option α) : callBody (table [] [(3, ⟨ltmps_wire_TakeUint_3, lmem_wire_TakeUint_3, louts_wire_TakeUint_3, L_wire_TakeUint_3⟩)]) br_wire_TakeUint rc_wire_TakeUint fd_wire_TakeUint (args_wire_TakeUint.svs (x1, ())) (mem_wire_TakeUint.mem ()) K = tree_wire_TakeUint L_wire_TakeUint_3 x1 (fun r => outsRun outs_wire_TakeUint r K) := by kernel_rfl
noncomputable def C_wire_TakeUint : Con := ⟨args_wire_TakeUint, mem_wire_TakeUint, outs_wire_TakeUint, F_wire_TakeUint⟩
theorem k_wire_TakeUint : Known Try.prog fd_wire_TakeUint [] [(3, D_wire_TakeUint_3)] := known_of mixT (by kernel_rfl) trivial ⟨okl_wire_TakeUint_3, trivial⟩
theorem fn_wire_TakeUint : FnOK Try.prog an_wire_TakeUint 64 Try.f64 fd_wire_TakeUint := fnOK (by kernel_rfl) (by kernel_rfl) (by kernel_rfl)
theorem ok_wire_TakeUint : ConOK Try.prog 64 C_wire_TakeUint := con_of k_wire_TakeUint (byRef := br_wire_TakeUint) fn_wire_TakeUint rc_wire_TakeUint args_wire_TakeUint mem_wire_TakeUint outs_wire_TakeUint (fun a b K => tree_wire_TakeUint L_wire_TakeUint_3 a.1 K) (fun a b => h_wire_TakeUint L_wire_TakeUint_3 a.1 _) (fun a b K => n_wire_TakeUint L_wire_TakeUint_3 a.1 K)

def an_wire_TakeText : Nat → LAnn := fun n => (find n []).getD ⟨0, [], [], [], []⟩
noncomputable def fd_wire_TakeText : FD := fdOf Try.prog an_wire_TakeText Try.f65
def br_wire_TakeText : FuncId → CC := fun f => ⟨([] : List Nat).contains f, (find f []).getD [], (find f []).getD []⟩
def rc_wire_TakeText : RC := ⟨true, [], []⟩
theorem h_wire_TakeText (F_wire_TakeUint : A_wire_TakeUint → M_wire_TakeUint → Option O_wire_TakeUint) (x1 : ByteArray) (x2 : Int) {α : Type} (K : SV → Mem → Option α) : callBody (table [(64, ⟨args_wire_TakeUint, mem_wire_TakeUint, outs_wire_TakeUint, F_wire_TakeUint⟩)] []) br_wire_TakeText rc_wire_TakeText fd_wire_TakeText (args_wire_TakeText.svs (x1, (x2, ()))) (mem_wire_TakeText.mem ()) K = tree_wire_TakeText F_wire_TakeUint x1 x2 (fun r => outsRun outs_wire_TakeText r K) := by kernel_rfl
noncomputable def C_wire_TakeText : Con := ⟨args_wire_TakeText, mem_wire_TakeText, outs_wire_TakeText, F_wire_TakeText⟩
theorem k_wire_TakeText : Known Try.prog fd_wire_TakeText [(64, C_wire_TakeUint)] [] := known_of mixT (by kernel_rfl) ⟨ok_wire_TakeUint, trivial⟩ trivial
theorem fn_wire_TakeText : FnOK Try.prog an_wire_TakeText 65 Try.f65 fd_wire_TakeText := fnOK (by kernel_rfl) (by kernel_rfl) (by kernel_rfl)
theorem ok_wire_TakeText : ConOK Try.prog 65 C_wire_TakeText := con_of k_wire_TakeText (byRef := br_wire_TakeText) fn_wire_TakeText rc_wire_TakeText args_wire_TakeText mem_wire_TakeText outs_wire_TakeText (fun a b K => tree_wire_TakeText F_wire_TakeUint a.1 a.2.1 K) (fun a b => h_wire_TakeText F_wire_TakeUint a.1 a.2.1 _) (fun a b K => n_wire_TakeText F_wire_TakeUint a.1 a.2.1 K)

end Go.Proofs.Ytlfedmjjjbhnpaa.S2
