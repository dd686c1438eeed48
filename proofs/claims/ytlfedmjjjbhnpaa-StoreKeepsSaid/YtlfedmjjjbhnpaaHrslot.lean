/- The program's functions come to their plain forms, by program. -/
import Derived.Test.YtlfedmjjjbhnpaaGrslot
import Derived.Test.YtlfedmjjjbhnpaaHrdisk
set_option maxRecDepth 100000
set_option maxHeartbeats 0
set_option linter.unusedVariables false
set_option linter.unusedSimpArgs false
namespace Go.Proofs.Ytlfedmjjjbhnpaa.S2
open Go
def an_ref09_Eight : Nat → LAnn := fun n => (find n [(3, ⟨3, [0, 3, 4], [], [0, 4, 6, 7, 8, 9, 10, 11, 12, 13, 14, 15, 16, 17], [3]⟩)]).getD ⟨0, [], [], [], []⟩
noncomputable def fd_ref09_Eight : FD := fdOf Try.prog an_ref09_Eight Try.f74
def br_ref09_Eight : FuncId → CC := fun f => ⟨([] : List Nat).contains f, (find f []).getD [], (find f []).getD []⟩
def rc_ref09_Eight : RC := ⟨true, [], []⟩
theorem hl_ref09_Eight_3 (x1 : Int) (x2 : Int) (x3 : List Int) {α : Type} (kn : St → Option α) (K : Out → St → Option α) : round (table [] []) br_ref09_Eight (an_ref09_Eight 3) (fd_ref09_Eight.loop 3) kn ⟨ltmps_ref09_Eight_3.svs (x1, (x2, ())), lmem_ref09_Eight_3.mem (x3, ())⟩ K = ltree_ref09_Eight_3 x1 x2 x3 (fun a b => kn ⟨ltmps_ref09_Eight_3.svs a, lmem_ref09_Eight_3.mem b⟩) (fun r => outLsRun louts_ref09_Eight_3 r K) := by kernel_rfl
noncomputable def D_ref09_Eight_3 : LCon := ⟨ltmps_ref09_Eight_3, lmem_ref09_Eight_3, louts_ref09_Eight_3, L_ref09_Eight_3⟩
theorem kl_ref09_Eight_3 : Known Try.prog fd_ref09_Eight [] [] := known_of mixT (by kernel_rfl) trivial trivial
theorem okl_ref09_Eight_3 : LConOK Try.prog (fd_ref09_Eight.loop 3) D_ref09_Eight_3 := lcon_of kl_ref09_Eight_3 (byRef := br_ref09_Eight) (lan := an_ref09_Eight 3) (id := 3) (by kernel_rfl) ltmps_ref09_Eight_3 lmem_ref09_Eight_3 louts_ref09_Eight_3 (fun a b kn kr => ltree_ref09_Eight_3 a.1 a.2.1 b.1 kn kr) (fun a b => hl_ref09_Eight_3 a.1 a.2.1 b.1 _ _) (fun a b kn kr => nl_ref09_Eight_3 a.1 a.2.1 b.1 kn kr)
theorem h_ref09_Eight (L_ref09_Eight_3 : LT_ref09_Eight_3 → LM_ref09_Eight_3 → Option LO_ref09_Eight_3) (x1 : Int) {α : Type} (K : SV → Mem → Option α) : callBody (table [] [(3, ⟨ltmps_ref09_Eight_3, lmem_ref09_Eight_3, louts_ref09_Eight_3, L_ref09_Eight_3⟩)]) br_ref09_Eight rc_ref09_Eight fd_ref09_Eight (args_ref09_Eight.svs (x1, ())) (mem_ref09_Eight.mem ()) K = tree_ref09_Eight L_ref09_Eight_3 x1 (fun r => outsRun outs_ref09_Eight r K) := by kernel_rfl
noncomputable def C_ref09_Eight : Con := ⟨args_ref09_Eight, mem_ref09_Eight, outs_ref09_Eight, F_ref09_Eight⟩
theorem k_ref09_Eight : Known Try.prog fd_ref09_Eight [] [(3, D_ref09_Eight_3)] := known_of mixT (by kernel_rfl) trivial ⟨okl_ref09_Eight_3, trivial⟩
theorem fn_ref09_Eight : FnOK Try.prog an_ref09_Eight 74 Try.f74 fd_ref09_Eight := fnOK (by kernel_rfl) (by kernel_rfl) (by kernel_rfl)
theorem ok_ref09_Eight : ConOK Try.prog 74 C_ref09_Eight := con_of k_ref09_Eight (byRef := br_ref09_Eight) fn_ref09_Eight rc_ref09_Eight args_ref09_Eight mem_ref09_Eight outs_ref09_Eight (fun a b K => tree_ref09_Eight L_ref09_Eight_3 a.1 K) (fun a b => h_ref09_Eight L_ref09_Eight_3 a.1 _) (fun a b K => n_ref09_Eight L_ref09_Eight_3 a.1 K)

def an_ref09_Frame : Nat → LAnn := fun n => (find n []).getD ⟨0, [], [], [], []⟩
noncomputable def fd_ref09_Frame : FD := fdOf Try.prog an_ref09_Frame Try.f35
def br_ref09_Frame : FuncId → CC := fun f => ⟨([] : List Nat).contains f, (find f []).getD [], (find f []).getD []⟩
def rc_ref09_Frame : RC := ⟨true, [], []⟩
theorem h_ref09_Frame (F_ref09_Eight : A_ref09_Eight → M_ref09_Eight → Option O_ref09_Eight) (F_ref08_Zeros : A_ref08_Zeros → M_ref08_Zeros → Option O_ref08_Zeros) (x1 : Int) (x2 : ByteArray) (x3 : Int) {α : Type} (K : SV → Mem → Option α) : callBody (table [(74, ⟨args_ref09_Eight, mem_ref09_Eight, outs_ref09_Eight, F_ref09_Eight⟩), (75, ⟨args_ref08_Zeros, mem_ref08_Zeros, outs_ref08_Zeros, F_ref08_Zeros⟩)] []) br_ref09_Frame rc_ref09_Frame fd_ref09_Frame (args_ref09_Frame.svs (x1, (x2, (x3, ())))) (mem_ref09_Frame.mem ()) K = tree_ref09_Frame F_ref09_Eight F_ref08_Zeros x1 x2 x3 (fun r => outsRun outs_ref09_Frame r K) := by kernel_rfl
noncomputable def C_ref09_Frame : Con := ⟨args_ref09_Frame, mem_ref09_Frame, outs_ref09_Frame, F_ref09_Frame⟩
theorem k_ref09_Frame : Known Try.prog fd_ref09_Frame [(74, C_ref09_Eight), (75, C_ref08_Zeros)] [] := known_of mixT (by kernel_rfl) ⟨ok_ref09_Eight, ok_ref08_Zeros, trivial⟩ trivial
theorem fn_ref09_Frame : FnOK Try.prog an_ref09_Frame 35 Try.f35 fd_ref09_Frame := fnOK (by kernel_rfl) (by kernel_rfl) (by kernel_rfl)
theorem ok_ref09_Frame : ConOK Try.prog 35 C_ref09_Frame := con_of k_ref09_Frame (byRef := br_ref09_Frame) fn_ref09_Frame rc_ref09_Frame args_ref09_Frame mem_ref09_Frame outs_ref09_Frame (fun a b K => tree_ref09_Frame F_ref09_Eight F_ref08_Zeros a.1 a.2.1 a.2.2.1 K) (fun a b => h_ref09_Frame F_ref09_Eight F_ref08_Zeros a.1 a.2.1 a.2.2.1 _) (fun a b K => n_ref09_Frame F_ref09_Eight F_ref08_Zeros a.1 a.2.1 a.2.2.1 K)

def an_ref09_Unframe : Nat → LAnn := fun n => (find n [(5, ⟨5, [0, 5, 6], [], [5, 6, 32, 33, 34, 35, 36, 37, 38, 39, 40, 41, 42], [0, 5]⟩)]).getD ⟨0, [], [], [], []⟩
noncomputable def fd_ref09_Unframe : FD := fdOf Try.prog an_ref09_Unframe Try.f99
def br_ref09_Unframe : FuncId → CC := fun f => ⟨([] : List Nat).contains f, (find f []).getD [], (find f []).getD []⟩
def rc_ref09_Unframe : RC := ⟨true, [], []⟩
theorem hl_ref09_Unframe_5 (F_ref08_Zeros : A_ref08_Zeros → M_ref08_Zeros → Option O_ref08_Zeros) (x1 : ByteArray) (x2 : Int) (x3 : Int) {α : Type} (kn : St → Option α) (K : Out → St → Option α) : round (table [(75, ⟨args_ref08_Zeros, mem_ref08_Zeros, outs_ref08_Zeros, F_ref08_Zeros⟩)] []) br_ref09_Unframe (an_ref09_Unframe 5) (fd_ref09_Unframe.loop 5) kn ⟨ltmps_ref09_Unframe_5.svs (x1, (x2, (x3, ()))), lmem_ref09_Unframe_5.mem ()⟩ K = ltree_ref09_Unframe_5 x1 x2 x3 (fun a b => kn ⟨ltmps_ref09_Unframe_5.svs a, lmem_ref09_Unframe_5.mem b⟩) (fun r => outLsRun louts_ref09_Unframe_5 r K) := by kernel_rfl
noncomputable def D_ref09_Unframe_5 : LCon := ⟨ltmps_ref09_Unframe_5, lmem_ref09_Unframe_5, louts_ref09_Unframe_5, L_ref09_Unframe_5⟩
theorem kl_ref09_Unframe_5 : Known Try.prog fd_ref09_Unframe [(75, C_ref08_Zeros)] [] := known_of mixT (by kernel_rfl) ⟨ok_ref08_Zeros, trivial⟩ trivial
theorem okl_ref09_Unframe_5 : LConOK Try.prog (fd_ref09_Unframe.loop 5) D_ref09_Unframe_5 := lcon_of kl_ref09_Unframe_5 (byRef := br_ref09_Unframe) (lan := an_ref09_Unframe 5) (id := 5) (by kernel_rfl) ltmps_ref09_Unframe_5 lmem_ref09_Unframe_5 louts_ref09_Unframe_5 (fun a b kn kr => ltree_ref09_Unframe_5 a.1 a.2.1 a.2.2.1 kn kr) (fun a b => hl_ref09_Unframe_5 F_ref08_Zeros a.1 a.2.1 a.2.2.1 _ _) (fun a b kn kr => nl_ref09_Unframe_5 a.1 a.2.1 a.2.2.1 kn kr)
theorem h_ref09_Unframe (F_ref08_Zeros : A_ref08_Zeros → M_ref08_Zeros → Option O_ref08_Zeros) (L_ref09_Unframe_5 : LT_ref09_Unframe_5 → LM_ref09_Unframe_5 → Option LO_ref09_Unframe_5) (x1 : ByteArray) {α : Type} (K : SV → Mem → Option α) : callBody (table [(75, ⟨args_ref08_Zeros, mem_ref08_Zeros, outs_ref08_Zeros, F_ref08_Zeros⟩)] [(5, ⟨ltmps_ref09_Unframe_5, lmem_ref09_Unframe_5, louts_ref09_Unframe_5, L_ref09_Unframe_5⟩)]) br_ref09_Unframe rc_ref09_Unframe fd_ref09_Unframe (args_ref09_Unframe.svs (x1, ())) (mem_ref09_Unframe.mem ()) K = tree_ref09_Unframe F_ref08_Zeros L_ref09_Unframe_5 x1 (fun r => outsRun outs_ref09_Unframe r K) := by kernel_rfl
noncomputable def C_ref09_Unframe : Con := ⟨args_ref09_Unframe, mem_ref09_Unframe, outs_ref09_Unframe, F_ref09_Unframe⟩
theorem k_ref09_Unframe : Known Try.prog fd_ref09_Unframe [(75, C_ref08_Zeros)] [(5, D_ref09_Unframe_5)] := known_of mixT (by kernel_rfl) ⟨ok_ref08_Zeros, trivial⟩ ⟨okl_ref09_Unframe_5, trivial⟩
theorem fn_ref09_Unframe : FnOK Try.prog an_ref09_Unframe 99 Try.f99 fd_ref09_Unframe := fnOK (by kernel_rfl) (by kernel_rfl) (by kernel_rfl)
theorem ok_ref09_Unframe : ConOK Try.prog 99 C_ref09_Unframe := con_of k_ref09_Unframe (byRef := br_ref09_Unframe) fn_ref09_Unframe rc_ref09_Unframe args_ref09_Unframe mem_ref09_Unframe outs_ref09_Unframe (fun a b K => tree_ref09_Unframe F_ref08_Zeros L_ref09_Unframe_5 a.1 K) (fun a b => h_ref09_Unframe F_ref08_Zeros L_ref09_Unframe_5 a.1 _) (fun a b K => n_ref09_Unframe F_ref08_Zeros L_ref09_Unframe_5 a.1 K)

def an_ref09_Newest : Nat → LAnn := fun n => (find n []).getD ⟨0, [], [], [], []⟩
noncomputable def fd_ref09_Newest : FD := fdOf Try.prog an_ref09_Newest Try.f92
def br_ref09_Newest : FuncId → CC := fun f => ⟨([] : List Nat).contains f, (find f []).getD [], (find f []).getD []⟩
def rc_ref09_Newest : RC := ⟨true, [], []⟩
theorem h_ref09_Newest (F_ref09_Unframe : A_ref09_Unframe → M_ref09_Unframe → Option O_ref09_Unframe) (x1 : ByteArray) (x2 : ByteArray) {α : Type} (K : SV → Mem → Option α) : callBody (table [(99, ⟨args_ref09_Unframe, mem_ref09_Unframe, outs_ref09_Unframe, F_ref09_Unframe⟩)] []) br_ref09_Newest rc_ref09_Newest fd_ref09_Newest (args_ref09_Newest.svs (x1, (x2, ()))) (mem_ref09_Newest.mem ()) K = tree_ref09_Newest F_ref09_Unframe x1 x2 (fun r => outsRun outs_ref09_Newest r K) := by kernel_rfl
noncomputable def C_ref09_Newest : Con := ⟨args_ref09_Newest, mem_ref09_Newest, outs_ref09_Newest, F_ref09_Newest⟩
theorem k_ref09_Newest : Known Try.prog fd_ref09_Newest [(99, C_ref09_Unframe)] [] := known_of mixT (by kernel_rfl) ⟨ok_ref09_Unframe, trivial⟩ trivial
theorem fn_ref09_Newest : FnOK Try.prog an_ref09_Newest 92 Try.f92 fd_ref09_Newest := fnOK (by kernel_rfl) (by kernel_rfl) (by kernel_rfl)
theorem ok_ref09_Newest : ConOK Try.prog 92 C_ref09_Newest := con_of k_ref09_Newest (byRef := br_ref09_Newest) fn_ref09_Newest rc_ref09_Newest args_ref09_Newest mem_ref09_Newest outs_ref09_Newest (fun a b K => tree_ref09_Newest F_ref09_Unframe a.1 a.2.1 K) (fun a b => h_ref09_Newest F_ref09_Unframe a.1 a.2.1 _) (fun a b K => n_ref09_Newest F_ref09_Unframe a.1 a.2.1 K)

def an_ref09_Load : Nat → LAnn := fun n => (find n []).getD ⟨0, [], [], [], []⟩
noncomputable def fd_ref09_Load : FD := fdOf Try.prog an_ref09_Load Try.f78
def br_ref09_Load : FuncId → CC := fun f => ⟨([91] : List Nat).contains f, (find f [(91, [0, 1, 2, 3, 4, 5, 6, 7, 8, 9, 10, 11])]).getD [], (find f [(91, [(0, 2, 114, (.cons (.int .i64) (.cons (.int .i64) (.cons .str (.cons (.slc 3 (.cons (.int .i64) .nil)) .nil)))))])]).getD []⟩
def rc_ref09_Load : RC := ⟨true, [(2, 2, 114, (.cons (.int .i64) (.cons (.int .i64) (.cons .str (.cons (.slc 3 (.cons (.int .i64) .nil)) .nil)))))], []⟩
theorem h_ref09_Load (F_ref08_Disk_Read : A_ref08_Disk_Read → M_ref08_Disk_Read → Option O_ref08_Disk_Read) (F_ref09_Newest : A_ref09_Newest → M_ref09_Newest → Option O_ref09_Newest) (x1 : Int) (x2 : Int) (x3 : Int) (x4 : List ByteArray) (x5 : List (Int × Int × ByteArray × List Int)) {α : Type} (K : SV → Mem → Option α) : callBody (table [(91, ⟨args_ref08_Disk_Read, mem_ref08_Disk_Read, outs_ref08_Disk_Read, F_ref08_Disk_Read⟩), (92, ⟨args_ref09_Newest, mem_ref09_Newest, outs_ref09_Newest, F_ref09_Newest⟩)] []) br_ref09_Load rc_ref09_Load fd_ref09_Load (args_ref09_Load.svs (x1, (x2, ()))) (mem_ref09_Load.mem ((x3, ()), (x4, (x5, ())))) K = tree_ref09_Load F_ref08_Disk_Read F_ref09_Newest x1 x2 x3 x4 x5 (fun r => outsRun routs_ref09_Load r K) := by kernel_rfl
noncomputable def C_ref09_Load : Con := ⟨args_ref09_Load, mem_ref09_Load, outs_ref09_Load, F_ref09_Load⟩
theorem k_ref09_Load : Known Try.prog fd_ref09_Load [(91, C_ref08_Disk_Read), (92, C_ref09_Newest)] [] := known_of mixT (by kernel_rfl) ⟨ok_ref08_Disk_Read, ok_ref09_Newest, trivial⟩ trivial
theorem fn_ref09_Load : FnOK Try.prog an_ref09_Load 78 Try.f78 fd_ref09_Load := fnOK (by kernel_rfl) (by kernel_rfl) (by kernel_rfl)
noncomputable def CR_ref09_Load : Con := ⟨args_ref09_Load, mem_ref09_Load, routs_ref09_Load, R_ref09_Load⟩
theorem okr_ref09_Load : ConOK Try.prog 78 CR_ref09_Load := con_of k_ref09_Load (byRef := br_ref09_Load) fn_ref09_Load rc_ref09_Load args_ref09_Load mem_ref09_Load routs_ref09_Load (fun a b K => tree_ref09_Load F_ref08_Disk_Read F_ref09_Newest a.1 a.2.1 b.1.1 b.2.1 b.2.2.1 K) (fun a b => h_ref09_Load F_ref08_Disk_Read F_ref09_Newest a.1 a.2.1 b.1.1 b.2.1 b.2.2.1 _) (fun a b K => n_ref09_Load F_ref08_Disk_Read F_ref09_Newest a.1 a.2.1 b.1.1 b.2.1 b.2.2.1 K)
theorem ok_ref09_Load : ConOK Try.prog 78 C_ref09_Load := con_reads okr_ref09_Load (by rfl) reads_ref09_Load

def an_ref09_Begin : Nat → LAnn := fun n => (find n []).getD ⟨0, [], [], [], []⟩
noncomputable def fd_ref09_Begin : FD := fdOf Try.prog an_ref09_Begin Try.f90
def br_ref09_Begin : FuncId → CC := fun f => ⟨([42, 91] : List Nat).contains f, (find f [(42, [0, 1, 2, 3, 4, 5, 6, 7, 8, 9, 10, 11]), (91, [0, 1, 2, 3, 4, 5, 6, 7, 8, 9, 10, 11])]).getD [], (find f [(42, [(0, 2, 114, (.cons (.int .i64) (.cons (.int .i64) (.cons .str (.cons (.slc 3 (.cons (.int .i64) .nil)) .nil)))))]), (91, [(0, 2, 114, (.cons (.int .i64) (.cons (.int .i64) (.cons .str (.cons (.slc 3 (.cons (.int .i64) .nil)) .nil)))))])]).getD []⟩
def rc_ref09_Begin : RC := ⟨false, [(1, 2, 114, (.cons (.int .i64) (.cons (.int .i64) (.cons .str (.cons (.slc 3 (.cons (.int .i64) .nil)) .nil)))))], [(1, 2, 2)]⟩
theorem h_ref09_Begin (F_ref08_Disk_Read : A_ref08_Disk_Read → M_ref08_Disk_Read → Option O_ref08_Disk_Read) (F_ref09_Newest : A_ref09_Newest → M_ref09_Newest → Option O_ref09_Newest) (F_ref09_Frame : A_ref09_Frame → M_ref09_Frame → Option O_ref09_Frame) (F_ref08_Disk_Write : A_ref08_Disk_Write → M_ref08_Disk_Write → Option O_ref08_Disk_Write) (x1 : Int) (x2 : Int) (x3 : ByteArray) (x4 : Int) (x5 : List ByteArray) (x6 : List (Int × Int × ByteArray × List Int)) {α : Type} (K : SV → Mem → Option α) : callBody (table [(91, ⟨args_ref08_Disk_Read, mem_ref08_Disk_Read, outs_ref08_Disk_Read, F_ref08_Disk_Read⟩), (92, ⟨args_ref09_Newest, mem_ref09_Newest, outs_ref09_Newest, F_ref09_Newest⟩), (35, ⟨args_ref09_Frame, mem_ref09_Frame, outs_ref09_Frame, F_ref09_Frame⟩), (42, ⟨args_ref08_Disk_Write, mem_ref08_Disk_Write, outs_ref08_Disk_Write, F_ref08_Disk_Write⟩)] []) br_ref09_Begin rc_ref09_Begin fd_ref09_Begin (args_ref09_Begin.svs (x1, (x2, (x3, ())))) (mem_ref09_Begin.mem ((x4, ()), (x5, (x6, ())))) K = tree_ref09_Begin F_ref08_Disk_Read F_ref09_Newest F_ref09_Frame F_ref08_Disk_Write x1 x2 x3 x4 x5 x6 (fun r => outsRun outs_ref09_Begin r K) := by kernel_rfl
noncomputable def C_ref09_Begin : Con := ⟨args_ref09_Begin, mem_ref09_Begin, outs_ref09_Begin, F_ref09_Begin⟩
theorem k_ref09_Begin : Known Try.prog fd_ref09_Begin [(91, C_ref08_Disk_Read), (92, C_ref09_Newest), (35, C_ref09_Frame), (42, C_ref08_Disk_Write)] [] := known_of mixT (by kernel_rfl) ⟨ok_ref08_Disk_Read, ok_ref09_Newest, ok_ref09_Frame, ok_ref08_Disk_Write, trivial⟩ trivial
theorem fn_ref09_Begin : FnOK Try.prog an_ref09_Begin 90 Try.f90 fd_ref09_Begin := fnOK (by kernel_rfl) (by kernel_rfl) (by kernel_rfl)
theorem ok_ref09_Begin : ConOK Try.prog 90 C_ref09_Begin := con_of k_ref09_Begin (byRef := br_ref09_Begin) fn_ref09_Begin rc_ref09_Begin args_ref09_Begin mem_ref09_Begin outs_ref09_Begin (fun a b K => tree_ref09_Begin F_ref08_Disk_Read F_ref09_Newest F_ref09_Frame F_ref08_Disk_Write a.1 a.2.1 a.2.2.1 b.1.1 b.2.1 b.2.2.1 K) (fun a b => h_ref09_Begin F_ref08_Disk_Read F_ref09_Newest F_ref09_Frame F_ref08_Disk_Write a.1 a.2.1 a.2.2.1 b.1.1 b.2.1 b.2.2.1 _) (fun a b K => n_ref09_Begin F_ref08_Disk_Read F_ref09_Newest F_ref09_Frame F_ref08_Disk_Write a.1 a.2.1 a.2.2.1 b.1.1 b.2.1 b.2.2.1 K)

end Go.Proofs.Ytlfedmjjjbhnpaa.S2
