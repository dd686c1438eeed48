/- The program's functions come to their plain forms, by program. -/
import Derived.Test.YtlfedmjjjbhnpaaGslot
import Derived.Test.YtlfedmjjjbhnpaaHdisk
set_option maxRecDepth 100000
set_option maxHeartbeats 0
set_option linter.unusedVariables false
set_option linter.unusedSimpArgs false
namespace Go.Proofs.Ytlfedmjjjbhnpaa.S2
open Go
def an_slot_sized : Nat → LAnn := fun n => (find n []).getD ⟨0, [], [], [], []⟩
noncomputable def fd_slot_sized : FD := fdOf Try.prog an_slot_sized Try.f81
def br_slot_sized : FuncId → CC := fun f => ⟨([] : List Nat).contains f, (find f []).getD [], (find f []).getD []⟩
def rc_slot_sized : RC := ⟨true, [], []⟩
theorem h_slot_sized (x1 : Int) {α : Type} (K : SV → Mem → Option α) : callBody (table [] []) br_slot_sized rc_slot_sized fd_slot_sized (args_slot_sized.svs (x1, ())) (mem_slot_sized.mem ()) K = tree_slot_sized x1 (fun r => outsRun outs_slot_sized r K) := by kernel_rfl
noncomputable def C_slot_sized : Con := ⟨args_slot_sized, mem_slot_sized, outs_slot_sized, F_slot_sized⟩
theorem k_slot_sized : Known Try.prog fd_slot_sized [] [] := known_of mixT (by kernel_rfl) trivial trivial
theorem fn_slot_sized : FnOK Try.prog an_slot_sized 81 Try.f81 fd_slot_sized := fnOK (by kernel_rfl) (by kernel_rfl) (by kernel_rfl)
theorem ok_slot_sized : ConOK Try.prog 81 C_slot_sized := con_of k_slot_sized (byRef := br_slot_sized) fn_slot_sized rc_slot_sized args_slot_sized mem_slot_sized outs_slot_sized (fun a b K => tree_slot_sized a.1 K) (fun a b => h_slot_sized a.1 _) (fun a b K => n_slot_sized a.1 K)

def an_slot_eight : Nat → LAnn := fun n => (find n [(3, ⟨3, [0, 3, 5], [], [4, 5, 6, 7, 8, 9, 10, 11, 12, 13, 14, 15, 16], [3]⟩)]).getD ⟨0, [], [], [], []⟩
noncomputable def fd_slot_eight : FD := fdOf Try.prog an_slot_eight Try.f82
def br_slot_eight : FuncId → CC := fun f => ⟨([] : List Nat).contains f, (find f []).getD [], (find f []).getD []⟩
def rc_slot_eight : RC := ⟨true, [], []⟩
theorem h_slot_eight (x1 : Int) {α : Type} (K : SV → Mem → Option α) : callBody ((table [] []).unroll br_slot_eight [(3, 9)]) br_slot_eight rc_slot_eight fd_slot_eight (args_slot_eight.svs (x1, ())) (mem_slot_eight.mem ()) K = tree_slot_eight x1 (fun r => outsRun outs_slot_eight r K) := by kernel_rfl
noncomputable def C_slot_eight : Con := ⟨args_slot_eight, mem_slot_eight, outs_slot_eight, F_slot_eight⟩
theorem k_slot_eight : Known Try.prog fd_slot_eight [] [] := known_of mixT (by kernel_rfl) trivial trivial
theorem fn_slot_eight : FnOK Try.prog an_slot_eight 82 Try.f82 fd_slot_eight := fnOK (by kernel_rfl) (by kernel_rfl) (by kernel_rfl)
theorem ok_slot_eight : ConOK Try.prog 82 C_slot_eight := con_ofU k_slot_eight (byRef := br_slot_eight) [(3, 9)] fn_slot_eight rc_slot_eight args_slot_eight mem_slot_eight outs_slot_eight (fun a b K => tree_slot_eight a.1 K) (fun a b => h_slot_eight a.1 _) (fun a b K => n_slot_eight a.1 K)

def an_slot_number : Nat → LAnn := fun n => (find n [(3, ⟨3, [0, 3, 6, 7], [], [3, 4, 7, 8, 9, 10, 11, 12, 13, 14, 15, 16, 17], [3]⟩)]).getD ⟨0, [], [], [], []⟩
noncomputable def fd_slot_number : FD := fdOf Try.prog an_slot_number Try.f87
def br_slot_number : FuncId → CC := fun f => ⟨([] : List Nat).contains f, (find f []).getD [], (find f []).getD []⟩
def rc_slot_number : RC := ⟨true, [], []⟩
theorem hl_slot_number_3 (x1 : ByteArray) (x2 : Int) (x3 : Int) (x4 : Int) {α : Type} (kn : St → Option α) (K : Out → St → Option α) : round (table [] []) br_slot_number (an_slot_number 3) (fd_slot_number.loop 3) kn ⟨ltmps_slot_number_3.svs (x1, (x2, (x3, (x4, ())))), lmem_slot_number_3.mem ()⟩ K = ltree_slot_number_3 x1 x2 x3 x4 (fun a b => kn ⟨ltmps_slot_number_3.svs a, lmem_slot_number_3.mem b⟩) (fun r => outLsRun louts_slot_number_3 r K) := by kernel_rfl
noncomputable def D_slot_number_3 : LCon := ⟨ltmps_slot_number_3, lmem_slot_number_3, louts_slot_number_3, L_slot_number_3⟩
theorem kl_slot_number_3 : Known Try.prog fd_slot_number [] [] := known_of mixT (by kernel_rfl) trivial trivial
theorem okl_slot_number_3 : LConOK Try.prog (fd_slot_number.loop 3) D_slot_number_3 := lcon_of kl_slot_number_3 (byRef := br_slot_number) (lan := an_slot_number 3) (id := 3) (by kernel_rfl) ltmps_slot_number_3 lmem_slot_number_3 louts_slot_number_3 (fun a b kn kr => ltree_slot_number_3 a.1 a.2.1 a.2.2.1 a.2.2.2.1 kn kr) (fun a b => hl_slot_number_3 a.1 a.2.1 a.2.2.1 a.2.2.2.1 _ _) (fun a b kn kr => nl_slot_number_3 a.1 a.2.1 a.2.2.1 a.2.2.2.1 kn kr)
theorem h_slot_number (L_slot_number_3 : LT_slot_number_3 → LM_slot_number_3 → Option LO_slot_number_3) (x1 : ByteArray) {α : Type} (K : SV → Mem → Option α) : callBody (table [] [(3, ⟨ltmps_slot_number_3, lmem_slot_number_3, louts_slot_number_3, L_slot_number_3⟩)]) br_slot_number rc_slot_number fd_slot_number (args_slot_number.svs (x1, ())) (mem_slot_number.mem ()) K = tree_slot_number L_slot_number_3 x1 (fun r => outsRun outs_slot_number r K) := by kernel_rfl
noncomputable def C_slot_number : Con := ⟨args_slot_number, mem_slot_number, outs_slot_number, F_slot_number⟩
theorem k_slot_number : Known Try.prog fd_slot_number [] [(3, D_slot_number_3)] := known_of mixT (by kernel_rfl) trivial ⟨okl_slot_number_3, trivial⟩
theorem fn_slot_number : FnOK Try.prog an_slot_number 87 Try.f87 fd_slot_number := fnOK (by kernel_rfl) (by kernel_rfl) (by kernel_rfl)
theorem ok_slot_number : ConOK Try.prog 87 C_slot_number := con_of k_slot_number (byRef := br_slot_number) fn_slot_number rc_slot_number args_slot_number mem_slot_number outs_slot_number (fun a b K => tree_slot_number L_slot_number_3 a.1 K) (fun a b => h_slot_number L_slot_number_3 a.1 _) (fun a b K => n_slot_number L_slot_number_3 a.1 K)

def an_slot_Frame : Nat → LAnn := fun n => (find n []).getD ⟨0, [], [], [], []⟩
noncomputable def fd_slot_Frame : FD := fdOf Try.prog an_slot_Frame Try.f51
def br_slot_Frame : FuncId → CC := fun f => ⟨([] : List Nat).contains f, (find f []).getD [], (find f []).getD []⟩
def rc_slot_Frame : RC := ⟨true, [], []⟩
theorem h_slot_Frame (F_slot_sized : A_slot_sized → M_slot_sized → Option O_slot_sized) (F_slot_eight : A_slot_eight → M_slot_eight → Option O_slot_eight) (F_strings_Repeat : A_strings_Repeat → M_strings_Repeat → Option O_strings_Repeat) (x1 : Int) (x2 : ByteArray) (x3 : Int) {α : Type} (K : SV → Mem → Option α) : callBody (table [(81, ⟨args_slot_sized, mem_slot_sized, outs_slot_sized, F_slot_sized⟩), (82, ⟨args_slot_eight, mem_slot_eight, outs_slot_eight, F_slot_eight⟩), (80, ⟨args_strings_Repeat, mem_strings_Repeat, outs_strings_Repeat, F_strings_Repeat⟩)] []) br_slot_Frame rc_slot_Frame fd_slot_Frame (args_slot_Frame.svs (x1, (x2, (x3, ())))) (mem_slot_Frame.mem ()) K = tree_slot_Frame F_slot_sized F_slot_eight F_strings_Repeat x1 x2 x3 (fun r => outsRun outs_slot_Frame r K) := by kernel_rfl
noncomputable def C_slot_Frame : Con := ⟨args_slot_Frame, mem_slot_Frame, outs_slot_Frame, F_slot_Frame⟩
theorem k_slot_Frame : Known Try.prog fd_slot_Frame [(81, C_slot_sized), (82, C_slot_eight), (80, C_strings_Repeat)] [] := known_of mixT (by kernel_rfl) ⟨ok_slot_sized, ok_slot_eight, ok_strings_Repeat, trivial⟩ trivial
theorem fn_slot_Frame : FnOK Try.prog an_slot_Frame 51 Try.f51 fd_slot_Frame := fnOK (by kernel_rfl) (by kernel_rfl) (by kernel_rfl)
theorem ok_slot_Frame : ConOK Try.prog 51 C_slot_Frame := con_of k_slot_Frame (byRef := br_slot_Frame) fn_slot_Frame rc_slot_Frame args_slot_Frame mem_slot_Frame outs_slot_Frame (fun a b K => tree_slot_Frame F_slot_sized F_slot_eight F_strings_Repeat a.1 a.2.1 a.2.2.1 K) (fun a b => h_slot_Frame F_slot_sized F_slot_eight F_strings_Repeat a.1 a.2.1 a.2.2.1 _) (fun a b K => n_slot_Frame F_slot_sized F_slot_eight F_strings_Repeat a.1 a.2.1 a.2.2.1 K)

def an_slot_Unframe : Nat → LAnn := fun n => (find n []).getD ⟨0, [], [], [], []⟩
noncomputable def fd_slot_Unframe : FD := fdOf Try.prog an_slot_Unframe Try.f60
def br_slot_Unframe : FuncId → CC := fun f => ⟨([] : List Nat).contains f, (find f []).getD [], (find f []).getD []⟩
def rc_slot_Unframe : RC := ⟨true, [], []⟩
theorem h_slot_Unframe (F_slot_sized : A_slot_sized → M_slot_sized → Option O_slot_sized) (F_slot_number : A_slot_number → M_slot_number → Option O_slot_number) (x1 : ByteArray) {α : Type} (K : SV → Mem → Option α) : callBody (table [(81, ⟨args_slot_sized, mem_slot_sized, outs_slot_sized, F_slot_sized⟩), (87, ⟨args_slot_number, mem_slot_number, outs_slot_number, F_slot_number⟩)] []) br_slot_Unframe rc_slot_Unframe fd_slot_Unframe (args_slot_Unframe.svs (x1, ())) (mem_slot_Unframe.mem ()) K = tree_slot_Unframe F_slot_sized F_slot_number x1 (fun r => outsRun outs_slot_Unframe r K) := by kernel_rfl
noncomputable def C_slot_Unframe : Con := ⟨args_slot_Unframe, mem_slot_Unframe, outs_slot_Unframe, F_slot_Unframe⟩
theorem k_slot_Unframe : Known Try.prog fd_slot_Unframe [(81, C_slot_sized), (87, C_slot_number)] [] := known_of mixT (by kernel_rfl) ⟨ok_slot_sized, ok_slot_number, trivial⟩ trivial
theorem fn_slot_Unframe : FnOK Try.prog an_slot_Unframe 60 Try.f60 fd_slot_Unframe := fnOK (by kernel_rfl) (by kernel_rfl) (by kernel_rfl)
theorem ok_slot_Unframe : ConOK Try.prog 60 C_slot_Unframe := con_of k_slot_Unframe (byRef := br_slot_Unframe) fn_slot_Unframe rc_slot_Unframe args_slot_Unframe mem_slot_Unframe outs_slot_Unframe (fun a b K => tree_slot_Unframe F_slot_sized F_slot_number a.1 K) (fun a b => h_slot_Unframe F_slot_sized F_slot_number a.1 _) (fun a b K => n_slot_Unframe F_slot_sized F_slot_number a.1 K)

def an_slot_newest : Nat → LAnn := fun n => (find n []).getD ⟨0, [], [], [], []⟩
noncomputable def fd_slot_newest : FD := fdOf Try.prog an_slot_newest Try.f79
def br_slot_newest : FuncId → CC := fun f => ⟨([59] : List Nat).contains f, (find f [(59, [0, 1, 2, 3, 4, 5, 6, 7, 8, 9, 10, 11])]).getD [], (find f [(59, [(0, 2, 127, (.cons (.int .i64) (.cons .str .nil)))])]).getD []⟩
def rc_slot_newest : RC := ⟨true, [(3, 2, 127, (.cons (.int .i64) (.cons .str .nil)))], []⟩
theorem h_slot_newest (F_disk_Disk_Read : A_disk_Disk_Read → M_disk_Disk_Read → Option O_disk_Disk_Read) (F_slot_Unframe : A_slot_Unframe → M_slot_Unframe → Option O_slot_Unframe) (x1 : Int) (x2 : Int) (x3 : Int) (x4 : List ByteArray) (x5 : List (Int × ByteArray)) {α : Type} (K : SV → Mem → Option α) : callBody (table [(59, ⟨args_disk_Disk_Read, mem_disk_Disk_Read, outs_disk_Disk_Read, F_disk_Disk_Read⟩), (60, ⟨args_slot_Unframe, mem_slot_Unframe, outs_slot_Unframe, F_slot_Unframe⟩)] []) br_slot_newest rc_slot_newest fd_slot_newest (args_slot_newest.svs (x1, (x2, ()))) (mem_slot_newest.mem ((x3, ()), (x4, (x5, ())))) K = tree_slot_newest F_disk_Disk_Read F_slot_Unframe x1 x2 x3 x4 x5 (fun r => outsRun routs_slot_newest r K) := by kernel_rfl
noncomputable def C_slot_newest : Con := ⟨args_slot_newest, mem_slot_newest, outs_slot_newest, F_slot_newest⟩
theorem k_slot_newest : Known Try.prog fd_slot_newest [(59, C_disk_Disk_Read), (60, C_slot_Unframe)] [] := known_of mixT (by kernel_rfl) ⟨ok_disk_Disk_Read, ok_slot_Unframe, trivial⟩ trivial
theorem fn_slot_newest : FnOK Try.prog an_slot_newest 79 Try.f79 fd_slot_newest := fnOK (by kernel_rfl) (by kernel_rfl) (by kernel_rfl)
noncomputable def CR_slot_newest : Con := ⟨args_slot_newest, mem_slot_newest, routs_slot_newest, R_slot_newest⟩
theorem okr_slot_newest : ConOK Try.prog 79 CR_slot_newest := con_of k_slot_newest (byRef := br_slot_newest) fn_slot_newest rc_slot_newest args_slot_newest mem_slot_newest routs_slot_newest (fun a b K => tree_slot_newest F_disk_Disk_Read F_slot_Unframe a.1 a.2.1 b.1.1 b.2.1 b.2.2.1 K) (fun a b => h_slot_newest F_disk_Disk_Read F_slot_Unframe a.1 a.2.1 b.1.1 b.2.1 b.2.2.1 _) (fun a b K => n_slot_newest F_disk_Disk_Read F_slot_Unframe a.1 a.2.1 b.1.1 b.2.1 b.2.2.1 K)
theorem ok_slot_newest : ConOK Try.prog 79 C_slot_newest := con_reads okr_slot_newest (by rfl) reads_slot_newest

def an_slot_Load : Nat → LAnn := fun n => (find n []).getD ⟨0, [], [], [], []⟩
noncomputable def fd_slot_Load : FD := fdOf Try.prog an_slot_Load Try.f73
def br_slot_Load : FuncId → CC := fun f => ⟨([79] : List Nat).contains f, (find f [(79, [0, 1, 2, 3, 4, 5, 6, 7, 8, 9, 10, 11])]).getD [], (find f [(79, [(0, 2, 127, (.cons (.int .i64) (.cons .str .nil)))])]).getD []⟩
def rc_slot_Load : RC := ⟨true, [(2, 2, 127, (.cons (.int .i64) (.cons .str .nil)))], []⟩
theorem h_slot_Load (F_slot_newest : A_slot_newest → M_slot_newest → Option O_slot_newest) (x1 : Int) (x2 : Int) (x3 : Int) (x4 : List ByteArray) (x5 : List (Int × ByteArray)) {α : Type} (K : SV → Mem → Option α) : callBody (table [(79, ⟨args_slot_newest, mem_slot_newest, outs_slot_newest, F_slot_newest⟩)] []) br_slot_Load rc_slot_Load fd_slot_Load (args_slot_Load.svs (x1, (x2, ()))) (mem_slot_Load.mem ((x3, ()), (x4, (x5, ())))) K = tree_slot_Load F_slot_newest x1 x2 x3 x4 x5 (fun r => outsRun routs_slot_Load r K) := by kernel_rfl
noncomputable def C_slot_Load : Con := ⟨args_slot_Load, mem_slot_Load, outs_slot_Load, F_slot_Load⟩
theorem k_slot_Load : Known Try.prog fd_slot_Load [(79, C_slot_newest)] [] := known_of mixT (by kernel_rfl) ⟨ok_slot_newest, trivial⟩ trivial
theorem fn_slot_Load : FnOK Try.prog an_slot_Load 73 Try.f73 fd_slot_Load := fnOK (by kernel_rfl) (by kernel_rfl) (by kernel_rfl)
noncomputable def CR_slot_Load : Con := ⟨args_slot_Load, mem_slot_Load, routs_slot_Load, R_slot_Load⟩
theorem okr_slot_Load : ConOK Try.prog 73 CR_slot_Load := con_of k_slot_Load (byRef := br_slot_Load) fn_slot_Load rc_slot_Load args_slot_Load mem_slot_Load routs_slot_Load (fun a b K => tree_slot_Load F_slot_newest a.1 a.2.1 b.1.1 b.2.1 b.2.2.1 K) (fun a b => h_slot_Load F_slot_newest a.1 a.2.1 b.1.1 b.2.1 b.2.2.1 _) (fun a b K => n_slot_Load F_slot_newest a.1 a.2.1 b.1.1 b.2.1 b.2.2.1 K)
theorem ok_slot_Load : ConOK Try.prog 73 C_slot_Load := con_reads okr_slot_Load (by rfl) reads_slot_Load

def an_slot_Begin : Nat → LAnn := fun n => (find n []).getD ⟨0, [], [], [], []⟩
noncomputable def fd_slot_Begin : FD := fdOf Try.prog an_slot_Begin Try.f46
def br_slot_Begin : FuncId → CC := fun f => ⟨([54, 55, 58, 79] : List Nat).contains f, (find f [(54, [0, 1, 2, 3, 4, 5, 6, 7, 8, 9, 10, 11]), (55, [0, 1, 2, 3, 4, 5, 6, 7, 8, 9, 10, 11]), (58, [0, 1, 2, 3, 4, 5, 6, 7, 8, 9, 10, 11]), (79, [0, 1, 2, 3, 4, 5, 6, 7, 8, 9, 10, 11])]).getD [], (find f [(54, [(0, 2, 127, (.cons (.int .i64) (.cons .str .nil)))]), (55, [(0, 2, 127, (.cons (.int .i64) (.cons .str .nil)))]), (58, [(0, 2, 127, (.cons (.int .i64) (.cons .str .nil)))]), (79, [(0, 2, 127, (.cons (.int .i64) (.cons .str .nil)))])]).getD []⟩
def rc_slot_Begin : RC := ⟨false, [(1, 2, 127, (.cons (.int .i64) (.cons .str .nil)))], [(1, 2, 2)]⟩
theorem h_slot_Begin (F_disk_Disk_Sectors : A_disk_Disk_Sectors → M_disk_Disk_Sectors → Option O_disk_Disk_Sectors) (F_slot_newest : A_slot_newest → M_slot_newest → Option O_slot_newest) (F_disk_Disk_Size : A_disk_Disk_Size → M_disk_Disk_Size → Option O_disk_Disk_Size) (F_slot_Frame : A_slot_Frame → M_slot_Frame → Option O_slot_Frame) (F_disk_Disk_Write : A_disk_Disk_Write → M_disk_Disk_Write → Option O_disk_Disk_Write) (x1 : Int) (x2 : Int) (x3 : ByteArray) (x4 : Int) (x5 : List ByteArray) (x6 : List (Int × ByteArray)) {α : Type} (K : SV → Mem → Option α) : callBody (table [(58, ⟨args_disk_Disk_Sectors, mem_disk_Disk_Sectors, outs_disk_Disk_Sectors, F_disk_Disk_Sectors⟩), (79, ⟨args_slot_newest, mem_slot_newest, outs_slot_newest, F_slot_newest⟩), (54, ⟨args_disk_Disk_Size, mem_disk_Disk_Size, outs_disk_Disk_Size, F_disk_Disk_Size⟩), (51, ⟨args_slot_Frame, mem_slot_Frame, outs_slot_Frame, F_slot_Frame⟩), (55, ⟨args_disk_Disk_Write, mem_disk_Disk_Write, outs_disk_Disk_Write, F_disk_Disk_Write⟩)] []) br_slot_Begin rc_slot_Begin fd_slot_Begin (args_slot_Begin.svs (x1, (x2, (x3, ())))) (mem_slot_Begin.mem ((x4, ()), (x5, (x6, ())))) K = tree_slot_Begin F_disk_Disk_Sectors F_slot_newest F_disk_Disk_Size F_slot_Frame F_disk_Disk_Write x1 x2 x3 x4 x5 x6 (fun r => outsRun outs_slot_Begin r K) := by kernel_rfl
noncomputable def C_slot_Begin : Con := ⟨args_slot_Begin, mem_slot_Begin, outs_slot_Begin, F_slot_Begin⟩
theorem k_slot_Begin : Known Try.prog fd_slot_Begin [(58, C_disk_Disk_Sectors), (79, C_slot_newest), (54, C_disk_Disk_Size), (51, C_slot_Frame), (55, C_disk_Disk_Write)] [] := known_of mixT (by kernel_rfl) ⟨ok_disk_Disk_Sectors, ok_slot_newest, ok_disk_Disk_Size, ok_slot_Frame, ok_disk_Disk_Write, trivial⟩ trivial
theorem fn_slot_Begin : FnOK Try.prog an_slot_Begin 46 Try.f46 fd_slot_Begin := fnOK (by kernel_rfl) (by kernel_rfl) (by kernel_rfl)
theorem ok_slot_Begin : ConOK Try.prog 46 C_slot_Begin := con_of k_slot_Begin (byRef := br_slot_Begin) fn_slot_Begin rc_slot_Begin args_slot_Begin mem_slot_Begin outs_slot_Begin (fun a b K => tree_slot_Begin F_disk_Disk_Sectors F_slot_newest F_disk_Disk_Size F_slot_Frame F_disk_Disk_Write a.1 a.2.1 a.2.2.1 b.1.1 b.2.1 b.2.2.1 K) (fun a b => h_slot_Begin F_disk_Disk_Sectors F_slot_newest F_disk_Disk_Size F_slot_Frame F_disk_Disk_Write a.1 a.2.1 a.2.2.1 b.1.1 b.2.1 b.2.2.1 _) (fun a b K => n_slot_Begin F_disk_Disk_Sectors F_slot_newest F_disk_Disk_Size F_slot_Frame F_disk_Disk_Write a.1 a.2.1 a.2.2.1 b.1.1 b.2.1 b.2.2.1 K)

def an_slot_Save : Nat → LAnn := fun n => (find n []).getD ⟨0, [], [], [], []⟩
noncomputable def fd_slot_Save : FD := fdOf Try.prog an_slot_Save Try.f89
def br_slot_Save : FuncId → CC := fun f => ⟨([46, 57] : List Nat).contains f, (find f [(46, [0, 1, 2, 3, 4, 5, 6, 7, 8, 9, 10, 11]), (57, [0, 1, 2, 3, 4, 5, 6, 7, 8, 9, 10, 11])]).getD [], (find f [(46, [(0, 2, 127, (.cons (.int .i64) (.cons .str .nil)))]), (57, [(0, 2, 127, (.cons (.int .i64) (.cons .str .nil)))])]).getD []⟩
def rc_slot_Save : RC := ⟨false, [(1, 2, 127, (.cons (.int .i64) (.cons .str .nil)))], [(1, 2, 2)]⟩
theorem h_slot_Save (F_slot_Begin : A_slot_Begin → M_slot_Begin → Option O_slot_Begin) (F_disk_Disk_Flush : A_disk_Disk_Flush → M_disk_Disk_Flush → Option O_disk_Disk_Flush) (x1 : Int) (x2 : Int) (x3 : ByteArray) (x4 : Int) (x5 : List ByteArray) (x6 : List (Int × ByteArray)) {α : Type} (K : SV → Mem → Option α) : callBody (table [(46, ⟨args_slot_Begin, mem_slot_Begin, outs_slot_Begin, F_slot_Begin⟩), (57, ⟨args_disk_Disk_Flush, mem_disk_Disk_Flush, outs_disk_Disk_Flush, F_disk_Disk_Flush⟩)] []) br_slot_Save rc_slot_Save fd_slot_Save (args_slot_Save.svs (x1, (x2, (x3, ())))) (mem_slot_Save.mem ((x4, ()), (x5, (x6, ())))) K = tree_slot_Save F_slot_Begin F_disk_Disk_Flush x1 x2 x3 x4 x5 x6 (fun r => outsRun outs_slot_Save r K) := by kernel_rfl
noncomputable def C_slot_Save : Con := ⟨args_slot_Save, mem_slot_Save, outs_slot_Save, F_slot_Save⟩
theorem k_slot_Save : Known Try.prog fd_slot_Save [(46, C_slot_Begin), (57, C_disk_Disk_Flush)] [] := known_of mixT (by kernel_rfl) ⟨ok_slot_Begin, ok_disk_Disk_Flush, trivial⟩ trivial
theorem fn_slot_Save : FnOK Try.prog an_slot_Save 89 Try.f89 fd_slot_Save := fnOK (by kernel_rfl) (by kernel_rfl) (by kernel_rfl)
theorem ok_slot_Save : ConOK Try.prog 89 C_slot_Save := con_of k_slot_Save (byRef := br_slot_Save) fn_slot_Save rc_slot_Save args_slot_Save mem_slot_Save outs_slot_Save (fun a b K => tree_slot_Save F_slot_Begin F_disk_Disk_Flush a.1 a.2.1 a.2.2.1 b.1.1 b.2.1 b.2.2.1 K) (fun a b => h_slot_Save F_slot_Begin F_disk_Disk_Flush a.1 a.2.1 a.2.2.1 b.1.1 b.2.1 b.2.2.1 _) (fun a b K => n_slot_Save F_slot_Begin F_disk_Disk_Flush a.1 a.2.1 a.2.2.1 b.1.1 b.2.1 b.2.2.1 K)

end Go.Proofs.Ytlfedmjjjbhnpaa.S2
