/- The program's functions come to their plain forms, by program. -/
import Derived.Test.YtlfedmjjjbhnpaaGrwire
import Derived.Test.YtlfedmjjjbhnpaaHbase
set_option maxRecDepth 100000
set_option maxHeartbeats 0
set_option linter.unusedVariables false
set_option linter.unusedSimpArgs false
namespace Go.Proofs.Ytlfedmjjjbhnpaa.S2
open Go
def an_ref01_PutUint : Nat → LAnn := fun n => (find n [(2, ⟨2, [0, 3], [(.slot 3, 503, 5, (.cons (.int .u8) .nil))], [0, 3, 5, 6, 7, 8, 9, 10, 11, 12, 13, 14, 15], [0, 3]⟩)]).getD ⟨0, [], [], [], []⟩
noncomputable def fd_ref01_PutUint : FD := fdOf Try.prog an_ref01_PutUint Try.f70
def br_ref01_PutUint : FuncId → CC := fun f => ⟨([] : List Nat).contains f, (find f []).getD [], (find f []).getD []⟩
def rc_ref01_PutUint : RC := ⟨true, [], []⟩
theorem hl_ref01_PutUint_2 (x1 : Int) (x2 : List Int) {α : Type} (kn : St → Option α) (K : Out → St → Option α) : round (table [] []) br_ref01_PutUint (an_ref01_PutUint 2) (fd_ref01_PutUint.loop 2) kn ⟨ltmps_ref01_PutUint_2.svs (x1, ()), lmem_ref01_PutUint_2.mem (x2, ())⟩ K = ltree_ref01_PutUint_2 x1 x2 (fun a b => kn ⟨ltmps_ref01_PutUint_2.svs a, lmem_ref01_PutUint_2.mem b⟩) (fun r => outLsRun louts_ref01_PutUint_2 r K) := by kernel_rfl
noncomputable def D_ref01_PutUint_2 : LCon := ⟨ltmps_ref01_PutUint_2, lmem_ref01_PutUint_2, louts_ref01_PutUint_2, L_ref01_PutUint_2⟩
theorem kl_ref01_PutUint_2 : Known Try.prog fd_ref01_PutUint [] [] := known_of mixT (by kernel_rfl) trivial trivial
theorem okl_ref01_PutUint_2 : LConOK Try.prog (fd_ref01_PutUint.loop 2) D_ref01_PutUint_2 := lcon_of kl_ref01_PutUint_2 (byRef := br_ref01_PutUint) (lan := an_ref01_PutUint 2) (id := 2) (by kernel_rfl) ltmps_ref01_PutUint_2 lmem_ref01_PutUint_2 louts_ref01_PutUint_2 (fun a b kn kr => ltree_ref01_PutUint_2 a.1 b.1 kn kr) (fun a b => hl_ref01_PutUint_2 a.1 b.1 _ _) (fun a b kn kr => nl_ref01_PutUint_2 a.1 b.1 kn kr)
theorem h_ref01_PutUint (L_ref01_PutUint_2 : LT_ref01_PutUint_2 → LM_ref01_PutUint_2 → Option LO_ref01_PutUint_2) (x1 : Int) {α : Type} (K : SV → Mem → Option α) : callBody (table [] [(2, ⟨ltmps_ref01_PutUint_2, lmem_ref01_PutUint_2, louts_ref01_PutUint_2, L_ref01_PutUint_2⟩)]) br_ref01_PutUint rc_ref01_PutUint fd_ref01_PutUint (args_ref01_PutUint.svs (x1, ())) (mem_ref01_PutUint.mem ()) K = tree_ref01_PutUint L_ref01_PutUint_2 x1 (fun r => outsRun outs_ref01_PutUint r K) := by kernel_rfl
noncomputable def C_ref01_PutUint : Con := ⟨args_ref01_PutUint, mem_ref01_PutUint, outs_ref01_PutUint, F_ref01_PutUint⟩
theorem k_ref01_PutUint : Known Try.prog fd_ref01_PutUint [] [(2, D_ref01_PutUint_2)] := known_of mixT (by kernel_rfl) trivial ⟨okl_ref01_PutUint_2, trivial⟩
theorem fn_ref01_PutUint : FnOK Try.prog an_ref01_PutUint 70 Try.f70 fd_ref01_PutUint := fnOK (by kernel_rfl) (by kernel_rfl) (by kernel_rfl)
theorem ok_ref01_PutUint : ConOK Try.prog 70 C_ref01_PutUint := con_of k_ref01_PutUint (byRef := br_ref01_PutUint) fn_ref01_PutUint rc_ref01_PutUint args_ref01_PutUint mem_ref01_PutUint outs_ref01_PutUint (fun a b K => tree_ref01_PutUint L_ref01_PutUint_2 a.1 K) (fun a b => h_ref01_PutUint L_ref01_PutUint_2 a.1 _) (fun a b K => n_ref01_PutUint L_ref01_PutUint_2 a.1 K)

def an_ref01_PutText : Nat → LAnn := fun n => (find n []).getD ⟨0, [], [], [], []⟩
noncomputable def fd_ref01_PutText : FD := fdOf Try.prog an_ref01_PutText Try.f71
def br_ref01_PutText : FuncId → CC := fun f => ⟨([] : List Nat).contains f, (find f []).getD [], (find f []).getD []⟩
def rc_ref01_PutText : RC := ⟨true, [], []⟩
theorem h_ref01_PutText (F_ref01_PutUint : A_ref01_PutUint → M_ref01_PutUint → Option O_ref01_PutUint) (x1 : ByteArray) {α : Type} (K : SV → Mem → Option α) : callBody (table [(70, ⟨args_ref01_PutUint, mem_ref01_PutUint, outs_ref01_PutUint, F_ref01_PutUint⟩)] []) br_ref01_PutText rc_ref01_PutText fd_ref01_PutText (args_ref01_PutText.svs (x1, ())) (mem_ref01_PutText.mem ()) K = tree_ref01_PutText F_ref01_PutUint x1 (fun r => outsRun outs_ref01_PutText r K) := by kernel_rfl
noncomputable def C_ref01_PutText : Con := ⟨args_ref01_PutText, mem_ref01_PutText, outs_ref01_PutText, F_ref01_PutText⟩
theorem k_ref01_PutText : Known Try.prog fd_ref01_PutText [(70, C_ref01_PutUint)] [] := known_of mixT (by kernel_rfl) ⟨ok_ref01_PutUint, trivial⟩ trivial
theorem fn_ref01_PutText : FnOK Try.prog an_ref01_PutText 71 Try.f71 fd_ref01_PutText := fnOK (by kernel_rfl) (by kernel_rfl) (by kernel_rfl)
theorem ok_ref01_PutText : ConOK Try.prog 71 C_ref01_PutText := con_of k_ref01_PutText (byRef := br_ref01_PutText) fn_ref01_PutText rc_ref01_PutText args_ref01_PutText mem_ref01_PutText outs_ref01_PutText (fun a b K => tree_ref01_PutText F_ref01_PutUint a.1 K) (fun a b => h_ref01_PutText F_ref01_PutUint a.1 _) (fun a b K => n_ref01_PutText F_ref01_PutUint a.1 K)

def an_ref01_TakeUint : Nat → LAnn := fun n => (find n [(4, ⟨4, [0, 5, 6, 7], [], [2, 3, 4, 5, 6, 7, 8, 9, 10, 11, 12, 13, 14, 15, 16, 17, 18, 19, 20, 21, 22, 23, 24, 25, 26, 27, 28, 29, 30, 31, 32, 33, 34, 35, 36, 37, 38, 39, 40, 41, 42, 43, 44], [2, 3, 4]⟩)]).getD ⟨0, [], [], [], []⟩
noncomputable def fd_ref01_TakeUint : FD := fdOf Try.prog an_ref01_TakeUint Try.f88
def br_ref01_TakeUint : FuncId → CC := fun f => ⟨([] : List Nat).contains f, (find f []).getD [], (find f []).getD []⟩
def rc_ref01_TakeUint : RC := ⟨true, [], []⟩
theorem hl_ref01_TakeUint_4 (F_ref01_PutUint : A_ref01_PutUint → M_ref01_PutUint → Option O_ref01_PutUint) (x1 : ByteArray) (x2 : Int) (x3 : Int) (x4 : Int) {α : Type} (kn : St → Option α) (K : Out → St → Option α) : round (table [(70, ⟨args_ref01_PutUint, mem_ref01_PutUint, outs_ref01_PutUint, F_ref01_PutUint⟩)] []) br_ref01_TakeUint (an_ref01_TakeUint 4) (fd_ref01_TakeUint.loop 4) kn ⟨ltmps_ref01_TakeUint_4.svs (x1, (x2, (x3, (x4, ())))), lmem_ref01_TakeUint_4.mem ()⟩ K = ltree_ref01_TakeUint_4 F_ref01_PutUint x1 x2 x3 x4 (fun a b => kn ⟨ltmps_ref01_TakeUint_4.svs a, lmem_ref01_TakeUint_4.mem b⟩) (fun r => outLsRun louts_ref01_TakeUint_4 r K) := by kernel_rfl
noncomputable def D_ref01_TakeUint_4 : LCon := ⟨ltmps_ref01_TakeUint_4, lmem_ref01_TakeUint_4, louts_ref01_TakeUint_4, L_ref01_TakeUint_4⟩
theorem kl_ref01_TakeUint_4 : Known Try.prog fd_ref01_TakeUint [(70, C_ref01_PutUint)] [] := known_of mixT (by kernel_rfl) ⟨ok_ref01_PutUint, trivial⟩ trivial
theorem okl_ref01_TakeUint_4 : LConOK Try.prog (fd_ref01_TakeUint.loop 4) D_ref01_TakeUint_4 := lcon_of kl_ref01_TakeUint_4 (byRef := br_ref01_TakeUint) (lan := an_ref01_TakeUint 4) (id := 4) (by kernel_rfl) ltmps_ref01_TakeUint_4 lmem_ref01_TakeUint_4 louts_ref01_TakeUint_4 (fun a b kn kr => ltree_ref01_TakeUint_4 F_ref01_PutUint a.1 a.2.1 a.2.2.1 a.2.2.2.1 kn kr) (fun a b => hl_ref01_TakeUint_4 F_ref01_PutUint a.1 a.2.1 a.2.2.1 a.2.2.2.1 _ _) (fun a b kn kr => nl_ref01_TakeUint_4 F_ref01_PutUint a.1 a.2.1 a.2.2.1 a.2.2.2.1 kn kr)
theorem h_ref01_TakeUint (F_ref01_PutUint : A_ref01_PutUint → M_ref01_PutUint → Option O_ref01_PutUint) (L_ref01_TakeUint_4 : LT_ref01_TakeUint_4 → LM_ref01_TakeUint_4 → Option LO_ref01_TakeUint_4) (x1 : ByteArray) {α : Type} (K : SV → Mem → Option α) : callBody (table [(70, ⟨args_ref01_PutUint, mem_ref01_PutUint, outs_ref01_PutUint, F_ref01_PutUint⟩)] [(4, ⟨ltmps_ref01_TakeUint_4, lmem_ref01_TakeUint_4, louts_ref01_TakeUint_4, L_ref01_TakeUint_4⟩)]) br_ref01_TakeUint rc_ref01_TakeUint fd_ref01_TakeUint (args_ref01_TakeUint.svs (x1, ())) (mem_ref01_TakeUint.mem ()) K = tree_ref01_TakeUint L_ref01_TakeUint_4 x1 (fun r => outsRun outs_ref01_TakeUint r K) := by kernel_rfl
noncomputable def C_ref01_TakeUint : Con := ⟨args_ref01_TakeUint, mem_ref01_TakeUint, outs_ref01_TakeUint, F_ref01_TakeUint⟩
theorem k_ref01_TakeUint : Known Try.prog fd_ref01_TakeUint [(70, C_ref01_PutUint)] [(4, D_ref01_TakeUint_4)] := known_of mixT (by kernel_rfl) ⟨ok_ref01_PutUint, trivial⟩ ⟨okl_ref01_TakeUint_4, trivial⟩
theorem fn_ref01_TakeUint : FnOK Try.prog an_ref01_TakeUint 88 Try.f88 fd_ref01_TakeUint := fnOK (by kernel_rfl) (by kernel_rfl) (by kernel_rfl)
theorem ok_ref01_TakeUint : ConOK Try.prog 88 C_ref01_TakeUint := con_of k_ref01_TakeUint (byRef := br_ref01_TakeUint) fn_ref01_TakeUint rc_ref01_TakeUint args_ref01_TakeUint mem_ref01_TakeUint outs_ref01_TakeUint (fun a b K => tree_ref01_TakeUint L_ref01_TakeUint_4 a.1 K) (fun a b => h_ref01_TakeUint F_ref01_PutUint L_ref01_TakeUint_4 a.1 _) (fun a b K => n_ref01_TakeUint L_ref01_TakeUint_4 a.1 K)

def an_ref01_TakeText : Nat → LAnn := fun n => (find n []).getD ⟨0, [], [], [], []⟩
noncomputable def fd_ref01_TakeText : FD := fdOf Try.prog an_ref01_TakeText Try.f68
def br_ref01_TakeText : FuncId → CC := fun f => ⟨([] : List Nat).contains f, (find f []).getD [], (find f []).getD []⟩
def rc_ref01_TakeText : RC := ⟨true, [], []⟩
theorem h_ref01_TakeText (F_ref01_TakeUint : A_ref01_TakeUint → M_ref01_TakeUint → Option O_ref01_TakeUint) (x1 : ByteArray) (x2 : Int) {α : Type} (K : SV → Mem → Option α) : callBody (table [(88, ⟨args_ref01_TakeUint, mem_ref01_TakeUint, outs_ref01_TakeUint, F_ref01_TakeUint⟩)] []) br_ref01_TakeText rc_ref01_TakeText fd_ref01_TakeText (args_ref01_TakeText.svs (x1, (x2, ()))) (mem_ref01_TakeText.mem ()) K = tree_ref01_TakeText F_ref01_TakeUint x1 x2 (fun r => outsRun outs_ref01_TakeText r K) := by kernel_rfl
noncomputable def C_ref01_TakeText : Con := ⟨args_ref01_TakeText, mem_ref01_TakeText, outs_ref01_TakeText, F_ref01_TakeText⟩
theorem k_ref01_TakeText : Known Try.prog fd_ref01_TakeText [(88, C_ref01_TakeUint)] [] := known_of mixT (by kernel_rfl) ⟨ok_ref01_TakeUint, trivial⟩ trivial
theorem fn_ref01_TakeText : FnOK Try.prog an_ref01_TakeText 68 Try.f68 fd_ref01_TakeText := fnOK (by kernel_rfl) (by kernel_rfl) (by kernel_rfl)
theorem ok_ref01_TakeText : ConOK Try.prog 68 C_ref01_TakeText := con_of k_ref01_TakeText (byRef := br_ref01_TakeText) fn_ref01_TakeText rc_ref01_TakeText args_ref01_TakeText mem_ref01_TakeText outs_ref01_TakeText (fun a b K => tree_ref01_TakeText F_ref01_TakeUint a.1 a.2.1 K) (fun a b => h_ref01_TakeText F_ref01_TakeUint a.1 a.2.1 _) (fun a b K => n_ref01_TakeText F_ref01_TakeUint a.1 a.2.1 K)

def an_ref13_Numbers : Nat → LAnn := fun n => (find n [(2, ⟨2, [0, 1, 7], [(.slot 7, 507, 29, (.cons (.int .u64) .nil))], [0, 4, 5, 6, 7, 8, 9, 10, 12, 13, 14, 15, 16, 17, 18, 19, 20, 21, 22, 23, 24, 25, 26, 27, 28], [0, 4, 5, 6, 7]⟩)]).getD ⟨0, [], [], [], []⟩
noncomputable def fd_ref13_Numbers : FD := fdOf Try.prog an_ref13_Numbers Try.f67
def br_ref13_Numbers : FuncId → CC := fun f => ⟨([] : List Nat).contains f, (find f []).getD [], (find f []).getD []⟩
def rc_ref13_Numbers : RC := ⟨true, [], []⟩
theorem hl_ref13_Numbers_2 (F_ref01_TakeUint : A_ref01_TakeUint → M_ref01_TakeUint → Option O_ref01_TakeUint) (x1 : ByteArray) (x2 : Int) (x3 : List Int) {α : Type} (kn : St → Option α) (K : Out → St → Option α) : round (table [(88, ⟨args_ref01_TakeUint, mem_ref01_TakeUint, outs_ref01_TakeUint, F_ref01_TakeUint⟩)] []) br_ref13_Numbers (an_ref13_Numbers 2) (fd_ref13_Numbers.loop 2) kn ⟨ltmps_ref13_Numbers_2.svs (x1, (x2, ())), lmem_ref13_Numbers_2.mem (x3, ())⟩ K = ltree_ref13_Numbers_2 F_ref01_TakeUint x1 x2 x3 (fun a b => kn ⟨ltmps_ref13_Numbers_2.svs a, lmem_ref13_Numbers_2.mem b⟩) (fun r => outLsRun louts_ref13_Numbers_2 r K) := by kernel_rfl
noncomputable def D_ref13_Numbers_2 : LCon := ⟨ltmps_ref13_Numbers_2, lmem_ref13_Numbers_2, louts_ref13_Numbers_2, L_ref13_Numbers_2⟩
theorem kl_ref13_Numbers_2 : Known Try.prog fd_ref13_Numbers [(88, C_ref01_TakeUint)] [] := known_of mixT (by kernel_rfl) ⟨ok_ref01_TakeUint, trivial⟩ trivial
theorem okl_ref13_Numbers_2 : LConOK Try.prog (fd_ref13_Numbers.loop 2) D_ref13_Numbers_2 := lcon_of kl_ref13_Numbers_2 (byRef := br_ref13_Numbers) (lan := an_ref13_Numbers 2) (id := 2) (by kernel_rfl) ltmps_ref13_Numbers_2 lmem_ref13_Numbers_2 louts_ref13_Numbers_2 (fun a b kn kr => ltree_ref13_Numbers_2 F_ref01_TakeUint a.1 a.2.1 b.1 kn kr) (fun a b => hl_ref13_Numbers_2 F_ref01_TakeUint a.1 a.2.1 b.1 _ _) (fun a b kn kr => nl_ref13_Numbers_2 F_ref01_TakeUint a.1 a.2.1 b.1 kn kr)
theorem h_ref13_Numbers (F_ref01_TakeUint : A_ref01_TakeUint → M_ref01_TakeUint → Option O_ref01_TakeUint) (L_ref13_Numbers_2 : LT_ref13_Numbers_2 → LM_ref13_Numbers_2 → Option LO_ref13_Numbers_2) (x1 : ByteArray) (x2 : Int) {α : Type} (K : SV → Mem → Option α) : callBody (table [(88, ⟨args_ref01_TakeUint, mem_ref01_TakeUint, outs_ref01_TakeUint, F_ref01_TakeUint⟩)] [(2, ⟨ltmps_ref13_Numbers_2, lmem_ref13_Numbers_2, louts_ref13_Numbers_2, L_ref13_Numbers_2⟩)]) br_ref13_Numbers rc_ref13_Numbers fd_ref13_Numbers (args_ref13_Numbers.svs (x1, (x2, ()))) (mem_ref13_Numbers.mem ()) K = tree_ref13_Numbers L_ref13_Numbers_2 x1 x2 (fun r => outsRun outs_ref13_Numbers r K) := by kernel_rfl
noncomputable def C_ref13_Numbers : Con := ⟨args_ref13_Numbers, mem_ref13_Numbers, outs_ref13_Numbers, F_ref13_Numbers⟩
theorem k_ref13_Numbers : Known Try.prog fd_ref13_Numbers [(88, C_ref01_TakeUint)] [(2, D_ref13_Numbers_2)] := known_of mixT (by kernel_rfl) ⟨ok_ref01_TakeUint, trivial⟩ ⟨okl_ref13_Numbers_2, trivial⟩
theorem fn_ref13_Numbers : FnOK Try.prog an_ref13_Numbers 67 Try.f67 fd_ref13_Numbers := fnOK (by kernel_rfl) (by kernel_rfl) (by kernel_rfl)
theorem ok_ref13_Numbers : ConOK Try.prog 67 C_ref13_Numbers := con_of k_ref13_Numbers (byRef := br_ref13_Numbers) fn_ref13_Numbers rc_ref13_Numbers args_ref13_Numbers mem_ref13_Numbers outs_ref13_Numbers (fun a b K => tree_ref13_Numbers L_ref13_Numbers_2 a.1 a.2.1 K) (fun a b => h_ref13_Numbers F_ref01_TakeUint L_ref13_Numbers_2 a.1 a.2.1 _) (fun a b K => n_ref13_Numbers L_ref13_Numbers_2 a.1 a.2.1 K)

end Go.Proofs.Ytlfedmjjjbhnpaa.S2
