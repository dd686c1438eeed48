/- The program's functions come to their plain forms, by program. -/
import Derived.Test.YtlfedmjjjbhnpaaGstore
import Derived.Test.YtlfedmjjjbhnpaaHslot
import Derived.Test.YtlfedmjjjbhnpaaHwire
set_option maxRecDepth 100000
set_option maxHeartbeats 0
set_option linter.unusedVariables false
set_option linter.unusedSimpArgs false
namespace Go.Proofs.Ytlfedmjjjbhnpaa.S2
open Go
def an_store_may : Nat → LAnn := fun n => (find n []).getD ⟨0, [], [], [], []⟩
noncomputable def fd_store_may : FD := fdOf Try.prog an_store_may Try.f66
def br_store_may : FuncId → CC := fun f => ⟨([] : List Nat).contains f, (find f []).getD [], (find f []).getD []⟩
def rc_store_may : RC := ⟨true, [], []⟩
theorem h_store_may (x1 : Int) (x2 : Int) (x3 : Int) (x4 : Int) (x5 : Int) (x6 : ByteArray) {α : Type} (K : SV → Mem → Option α) : callBody (table [] []) br_store_may rc_store_may fd_store_may (args_store_may.svs ((x1, (x2, (x3, (x4, (x5, (x6, ())))))), ())) (mem_store_may.mem ()) K = tree_store_may x1 x2 x3 x4 x5 x6 (fun r => outsRun outs_store_may r K) := by kernel_rfl
noncomputable def C_store_may : Con := ⟨args_store_may, mem_store_may, outs_store_may, F_store_may⟩
theorem k_store_may : Known Try.prog fd_store_may [] [] := known_of mixT (by kernel_rfl) trivial trivial
theorem fn_store_may : FnOK Try.prog an_store_may 66 Try.f66 fd_store_may := fnOK (by kernel_rfl) (by kernel_rfl) (by kernel_rfl)
theorem ok_store_may : ConOK Try.prog 66 C_store_may := con_of k_store_may (byRef := br_store_may) fn_store_may rc_store_may args_store_may mem_store_may outs_store_may (fun a b K => tree_store_may a.1.1 a.1.2.1 a.1.2.2.1 a.1.2.2.2.1 a.1.2.2.2.2.1 a.1.2.2.2.2.2.1 K) (fun a b => h_store_may a.1.1 a.1.2.1 a.1.2.2.1 a.1.2.2.2.1 a.1.2.2.2.2.1 a.1.2.2.2.2.2.1 _) (fun a b K => n_store_may a.1.1 a.1.2.1 a.1.2.2.1 a.1.2.2.2.1 a.1.2.2.2.2.1 a.1.2.2.2.2.2.1 K)

def an_store_Text : Nat → LAnn := fun n => (find n [(3, ⟨3, [1, 3, 16, 17], [], [3, 5, 17, 18, 19, 20, 21, 22, 23, 24], [1, 3]⟩)]).getD ⟨0, [], [], [], []⟩
noncomputable def fd_store_Text : FD := fdOf Try.prog an_store_Text Try.f28
def br_store_Text : FuncId → CC := fun f => ⟨([] : List Nat).contains f, (find f []).getD [], (find f []).getD []⟩
def rc_store_Text : RC := ⟨true, [], []⟩
theorem h_store_Text (F_wire_PutUint : A_wire_PutUint → M_wire_PutUint → Option O_wire_PutUint) (F_wire_PutText : A_wire_PutText → M_wire_PutText → Option O_wire_PutText) (x1 : Int) (x2 : Int) (x3 : Int) (x4 : Int) (x5 : Int) (x6 : ByteArray) {α : Type} (K : SV → Mem → Option α) : callBody ((table [(52, ⟨args_wire_PutUint, mem_wire_PutUint, outs_wire_PutUint, F_wire_PutUint⟩), (69, ⟨args_wire_PutText, mem_wire_PutText, outs_wire_PutText, F_wire_PutText⟩)] []).unroll br_store_Text [(3, 7)]) br_store_Text rc_store_Text fd_store_Text (args_store_Text.svs ((x1, (x2, (x3, (x4, (x5, (x6, ())))))), ())) (mem_store_Text.mem ()) K = tree_store_Text F_wire_PutUint F_wire_PutText x1 x2 x3 x4 x5 x6 (fun r => outsRun outs_store_Text r K) := by kernel_rfl
noncomputable def C_store_Text : Con := ⟨args_store_Text, mem_store_Text, outs_store_Text, F_store_Text⟩
theorem k_store_Text : Known Try.prog fd_store_Text [(52, C_wire_PutUint), (69, C_wire_PutText)] [] := known_of mixT (by kernel_rfl) ⟨ok_wire_PutUint, ok_wire_PutText, trivial⟩ trivial
theorem fn_store_Text : FnOK Try.prog an_store_Text 28 Try.f28 fd_store_Text := fnOK (by kernel_rfl) (by kernel_rfl) (by kernel_rfl)
theorem ok_store_Text : ConOK Try.prog 28 C_store_Text := con_ofU k_store_Text (byRef := br_store_Text) [(3, 7)] fn_store_Text rc_store_Text args_store_Text mem_store_Text outs_store_Text (fun a b K => tree_store_Text F_wire_PutUint F_wire_PutText a.1.1 a.1.2.1 a.1.2.2.1 a.1.2.2.2.1 a.1.2.2.2.2.1 a.1.2.2.2.2.2.1 K) (fun a b => h_store_Text F_wire_PutUint F_wire_PutText a.1.1 a.1.2.1 a.1.2.2.1 a.1.2.2.2.1 a.1.2.2.2.2.1 a.1.2.2.2.2.2.1 _) (fun a b K => n_store_Text F_wire_PutUint F_wire_PutText a.1.1 a.1.2.1 a.1.2.2.1 a.1.2.2.2.1 a.1.2.2.2.2.1 a.1.2.2.2.2.2.1 K)

def an_store_Parse : Nat → LAnn := fun n => (find n [(3, ⟨3, [0, 2, 4, 13], [], [0, 3, 5, 6, 7, 8, 13, 14, 15, 16, 17, 18, 19, 20, 21, 22, 23, 24, 25, 26, 27, 28, 29], [0, 2, 3, 4]⟩)]).getD ⟨0, [], [], [], []⟩
noncomputable def fd_store_Parse : FD := fdOf Try.prog an_store_Parse Try.f26
def br_store_Parse : FuncId → CC := fun f => ⟨([] : List Nat).contains f, (find f []).getD [], (find f []).getD []⟩
def rc_store_Parse : RC := ⟨true, [], []⟩
theorem h_store_Parse (F_wire_TakeUint : A_wire_TakeUint → M_wire_TakeUint → Option O_wire_TakeUint) (F_wire_TakeText : A_wire_TakeText → M_wire_TakeText → Option O_wire_TakeText) (F_store_may : A_store_may → M_store_may → Option O_store_may) (x1 : ByteArray) {α : Type} (K : SV → Mem → Option α) : callBody ((table [(64, ⟨args_wire_TakeUint, mem_wire_TakeUint, outs_wire_TakeUint, F_wire_TakeUint⟩), (65, ⟨args_wire_TakeText, mem_wire_TakeText, outs_wire_TakeText, F_wire_TakeText⟩), (66, ⟨args_store_may, mem_store_may, outs_store_may, F_store_may⟩)] []).unroll br_store_Parse [(3, 7)]) br_store_Parse rc_store_Parse fd_store_Parse (args_store_Parse.svs (x1, ())) (mem_store_Parse.mem ()) K = tree_store_Parse F_wire_TakeUint F_wire_TakeText F_store_may x1 (fun r => outsRun outs_store_Parse r K) := by kernel_rfl
noncomputable def C_store_Parse : Con := ⟨args_store_Parse, mem_store_Parse, outs_store_Parse, F_store_Parse⟩
theorem k_store_Parse : Known Try.prog fd_store_Parse [(64, C_wire_TakeUint), (65, C_wire_TakeText), (66, C_store_may)] [] := known_of mixT (by kernel_rfl) ⟨ok_wire_TakeUint, ok_wire_TakeText, ok_store_may, trivial⟩ trivial
theorem fn_store_Parse : FnOK Try.prog an_store_Parse 26 Try.f26 fd_store_Parse := fnOK (by kernel_rfl) (by kernel_rfl) (by kernel_rfl)
theorem ok_store_Parse : ConOK Try.prog 26 C_store_Parse := con_ofU k_store_Parse (byRef := br_store_Parse) [(3, 7)] fn_store_Parse rc_store_Parse args_store_Parse mem_store_Parse outs_store_Parse (fun a b K => tree_store_Parse F_wire_TakeUint F_wire_TakeText F_store_may a.1 K) (fun a b => h_store_Parse F_wire_TakeUint F_wire_TakeText F_store_may a.1 _) (fun a b K => n_store_Parse F_wire_TakeUint F_wire_TakeText F_store_may a.1 K)

def an_store_Open : Nat → LAnn := fun n => (find n []).getD ⟨0, [], [], [], []⟩
noncomputable def fd_store_Open : FD := fdOf Try.prog an_store_Open Try.f48
def br_store_Open : FuncId → CC := fun f => ⟨([58] : List Nat).contains f, (find f [(58, [0, 1, 2, 3, 4, 5, 6, 7, 8, 9, 10, 11])]).getD [], (find f [(58, [(0, 2, 127, (.cons (.int .i64) (.cons .str .nil)))])]).getD []⟩
def rc_store_Open : RC := ⟨false, [(2, 2, 127, (.cons (.int .i64) (.cons .str .nil)))], []⟩
theorem h_store_Open (F_disk_Disk_Sectors : A_disk_Disk_Sectors → M_disk_Disk_Sectors → Option O_disk_Disk_Sectors) (x1 : Int) (x2 : List ByteArray) (x3 : List (Int × ByteArray)) {α : Type} (K : SV → Mem → Option α) : callBody (table [(58, ⟨args_disk_Disk_Sectors, mem_disk_Disk_Sectors, outs_disk_Disk_Sectors, F_disk_Disk_Sectors⟩)] []) br_store_Open rc_store_Open fd_store_Open (args_store_Open.svs ()) (mem_store_Open.mem ((x1, ()), (x2, (x3, ())))) K = tree_store_Open F_disk_Disk_Sectors x1 x2 x3 (fun r => outsRun outs_store_Open r K) := by kernel_rfl
noncomputable def C_store_Open : Con := ⟨args_store_Open, mem_store_Open, outs_store_Open, F_store_Open⟩
theorem k_store_Open : Known Try.prog fd_store_Open [(58, C_disk_Disk_Sectors)] [] := known_of mixT (by kernel_rfl) ⟨ok_disk_Disk_Sectors, trivial⟩ trivial
theorem fn_store_Open : FnOK Try.prog an_store_Open 48 Try.f48 fd_store_Open := fnOK (by kernel_rfl) (by kernel_rfl) (by kernel_rfl)
theorem ok_store_Open : ConOK Try.prog 48 C_store_Open := con_of k_store_Open (byRef := br_store_Open) fn_store_Open rc_store_Open args_store_Open mem_store_Open outs_store_Open (fun a b K => tree_store_Open F_disk_Disk_Sectors b.1.1 b.2.1 b.2.2.1 K) (fun a b => h_store_Open F_disk_Disk_Sectors b.1.1 b.2.1 b.2.2.1 _) (fun a b K => n_store_Open F_disk_Disk_Sectors b.1.1 b.2.1 b.2.2.1 K)

def an_store_Store_Disk : Nat → LAnn := fun n => (find n []).getD ⟨0, [], [], [], []⟩
noncomputable def fd_store_Store_Disk : FD := fdOf Try.prog an_store_Store_Disk Try.f77
def br_store_Store_Disk : FuncId → CC := fun f => ⟨([] : List Nat).contains f, (find f []).getD [], (find f []).getD []⟩
def rc_store_Store_Disk : RC := ⟨false, [(2, 2, 127, (.cons (.int .i64) (.cons .str .nil)))], []⟩
theorem h_store_Store_Disk (x1 : Int) (x2 : List ByteArray) (x3 : List (Int × ByteArray)) {α : Type} (K : SV → Mem → Option α) : callBody (table [] []) br_store_Store_Disk rc_store_Store_Disk fd_store_Store_Disk (args_store_Store_Disk.svs ()) (mem_store_Store_Disk.mem ((), ((x1, ()), (x2, (x3, ()))))) K = tree_store_Store_Disk x1 x2 x3 (fun r => outsRun routs_store_Store_Disk r K) := by kernel_rfl
noncomputable def C_store_Store_Disk : Con := ⟨args_store_Store_Disk, mem_store_Store_Disk, outs_store_Store_Disk, F_store_Store_Disk⟩
theorem k_store_Store_Disk : Known Try.prog fd_store_Store_Disk [] [] := known_of mixT (by kernel_rfl) trivial trivial
theorem fn_store_Store_Disk : FnOK Try.prog an_store_Store_Disk 77 Try.f77 fd_store_Store_Disk := fnOK (by kernel_rfl) (by kernel_rfl) (by kernel_rfl)
noncomputable def CR_store_Store_Disk : Con := ⟨args_store_Store_Disk, mem_store_Store_Disk, routs_store_Store_Disk, R_store_Store_Disk⟩
theorem okr_store_Store_Disk : ConOK Try.prog 77 CR_store_Store_Disk := con_of k_store_Store_Disk (byRef := br_store_Store_Disk) fn_store_Store_Disk rc_store_Store_Disk args_store_Store_Disk mem_store_Store_Disk routs_store_Store_Disk (fun a b K => tree_store_Store_Disk b.2.1.1 b.2.2.1 b.2.2.2.1 K) (fun a b => h_store_Store_Disk b.2.1.1 b.2.2.1 b.2.2.2.1 _) (fun a b K => n_store_Store_Disk b.2.1.1 b.2.2.1 b.2.2.2.1 K)
theorem ok_store_Store_Disk : ConOK Try.prog 77 C_store_Store_Disk := con_reads okr_store_Store_Disk (by rfl) reads_store_Store_Disk

def an_store_Store_Trust : Nat → LAnn := fun n => (find n []).getD ⟨0, [], [], [], []⟩
noncomputable def fd_store_Store_Trust : FD := fdOf Try.prog an_store_Store_Trust Try.f33
def br_store_Store_Trust : FuncId → CC := fun f => ⟨([73] : List Nat).contains f, (find f [(73, [0, 1, 2, 3, 4, 5, 6, 7, 8, 9, 10, 11])]).getD [], (find f [(73, [(0, 2, 127, (.cons (.int .i64) (.cons .str .nil)))])]).getD []⟩
def rc_store_Store_Trust : RC := ⟨true, [(3, 2, 127, (.cons (.int .i64) (.cons .str .nil)))], []⟩
theorem h_store_Store_Trust (F_slot_Load : A_slot_Load → M_slot_Load → Option O_slot_Load) (F_store_Parse : A_store_Parse → M_store_Parse → Option O_store_Parse) (x1 : Int) (x2 : List ByteArray) (x3 : List (Int × ByteArray)) {α : Type} (K : SV → Mem → Option α) : callBody (table [(73, ⟨args_slot_Load, mem_slot_Load, outs_slot_Load, F_slot_Load⟩), (26, ⟨args_store_Parse, mem_store_Parse, outs_store_Parse, F_store_Parse⟩)] []) br_store_Store_Trust rc_store_Store_Trust fd_store_Store_Trust (args_store_Store_Trust.svs ()) (mem_store_Store_Trust.mem ((), ((x1, ()), (x2, (x3, ()))))) K = tree_store_Store_Trust F_slot_Load F_store_Parse x1 x2 x3 (fun r => outsRun routs_store_Store_Trust r K) := by kernel_rfl
noncomputable def C_store_Store_Trust : Con := ⟨args_store_Store_Trust, mem_store_Store_Trust, outs_store_Store_Trust, F_store_Store_Trust⟩
theorem k_store_Store_Trust : Known Try.prog fd_store_Store_Trust [(73, C_slot_Load), (26, C_store_Parse)] [] := known_of mixT (by kernel_rfl) ⟨ok_slot_Load, ok_store_Parse, trivial⟩ trivial
theorem fn_store_Store_Trust : FnOK Try.prog an_store_Store_Trust 33 Try.f33 fd_store_Store_Trust := fnOK (by kernel_rfl) (by kernel_rfl) (by kernel_rfl)
noncomputable def CR_store_Store_Trust : Con := ⟨args_store_Store_Trust, mem_store_Store_Trust, routs_store_Store_Trust, R_store_Store_Trust⟩
theorem okr_store_Store_Trust : ConOK Try.prog 33 CR_store_Store_Trust := con_of k_store_Store_Trust (byRef := br_store_Store_Trust) fn_store_Store_Trust rc_store_Store_Trust args_store_Store_Trust mem_store_Store_Trust routs_store_Store_Trust (fun a b K => tree_store_Store_Trust F_slot_Load F_store_Parse b.2.1.1 b.2.2.1 b.2.2.2.1 K) (fun a b => h_store_Store_Trust F_slot_Load F_store_Parse b.2.1.1 b.2.2.1 b.2.2.2.1 _) (fun a b K => n_store_Store_Trust F_slot_Load F_store_Parse b.2.1.1 b.2.2.1 b.2.2.2.1 K)
theorem ok_store_Store_Trust : ConOK Try.prog 33 C_store_Store_Trust := con_reads okr_store_Store_Trust (by rfl) reads_store_Store_Trust

def an_store_Store_save : Nat → LAnn := fun n => (find n []).getD ⟨0, [], [], [], []⟩
noncomputable def fd_store_Store_save : FD := fdOf Try.prog an_store_Store_save Try.f72
def br_store_Store_save : FuncId → CC := fun f => ⟨([89] : List Nat).contains f, (find f [(89, [0, 1, 2, 3, 4, 5, 6, 7, 8, 9, 10, 11])]).getD [], (find f [(89, [(0, 2, 127, (.cons (.int .i64) (.cons .str .nil)))])]).getD []⟩
def rc_store_Store_save : RC := ⟨false, [(2, 2, 127, (.cons (.int .i64) (.cons .str .nil)))], [(2, 2, 3)]⟩
theorem h_store_Store_save (F_store_Text : A_store_Text → M_store_Text → Option O_store_Text) (F_slot_Save : A_slot_Save → M_slot_Save → Option O_slot_Save) (x1 : Int) (x2 : Int) (x3 : Int) (x4 : Int) (x5 : Int) (x6 : ByteArray) (x7 : Int) (x8 : List ByteArray) (x9 : List (Int × ByteArray)) {α : Type} (K : SV → Mem → Option α) : callBody (table [(28, ⟨args_store_Text, mem_store_Text, outs_store_Text, F_store_Text⟩), (89, ⟨args_slot_Save, mem_slot_Save, outs_slot_Save, F_slot_Save⟩)] []) br_store_Store_save rc_store_Store_save fd_store_Store_save (args_store_Store_save.svs ((x1, (x2, (x3, (x4, (x5, (x6, ())))))), ())) (mem_store_Store_save.mem ((), ((x7, ()), (x8, (x9, ()))))) K = tree_store_Store_save F_store_Text F_slot_Save x1 x2 x3 x4 x5 x6 x7 x8 x9 (fun r => outsRun outs_store_Store_save r K) := by kernel_rfl
noncomputable def C_store_Store_save : Con := ⟨args_store_Store_save, mem_store_Store_save, outs_store_Store_save, F_store_Store_save⟩
theorem k_store_Store_save : Known Try.prog fd_store_Store_save [(28, C_store_Text), (89, C_slot_Save)] [] := known_of mixT (by kernel_rfl) ⟨ok_store_Text, ok_slot_Save, trivial⟩ trivial
theorem fn_store_Store_save : FnOK Try.prog an_store_Store_save 72 Try.f72 fd_store_Store_save := fnOK (by kernel_rfl) (by kernel_rfl) (by kernel_rfl)
theorem ok_store_Store_save : ConOK Try.prog 72 C_store_Store_save := con_of k_store_Store_save (byRef := br_store_Store_save) fn_store_Store_save rc_store_Store_save args_store_Store_save mem_store_Store_save outs_store_Store_save (fun a b K => tree_store_Store_save F_store_Text F_slot_Save a.1.1 a.1.2.1 a.1.2.2.1 a.1.2.2.2.1 a.1.2.2.2.2.1 a.1.2.2.2.2.2.1 b.2.1.1 b.2.2.1 b.2.2.2.1 K) (fun a b => h_store_Store_save F_store_Text F_slot_Save a.1.1 a.1.2.1 a.1.2.2.1 a.1.2.2.2.1 a.1.2.2.2.2.1 a.1.2.2.2.2.2.1 b.2.1.1 b.2.2.1 b.2.2.2.1 _) (fun a b K => n_store_Store_save F_store_Text F_slot_Save a.1.1 a.1.2.1 a.1.2.2.1 a.1.2.2.2.1 a.1.2.2.2.2.1 a.1.2.2.2.2.2.1 b.2.1.1 b.2.2.1 b.2.2.2.1 K)

def an_store_Store_Reset : Nat → LAnn := fun n => (find n []).getD ⟨0, [], [], [], []⟩
noncomputable def fd_store_Store_Reset : FD := fdOf Try.prog an_store_Store_Reset Try.f32
def br_store_Store_Reset : FuncId → CC := fun f => ⟨([72] : List Nat).contains f, (find f [(72, [0, 1, 2, 3, 4, 5, 6, 7, 8, 9, 10, 11])]).getD [], (find f []).getD []⟩
def rc_store_Store_Reset : RC := ⟨false, [(2, 2, 127, (.cons (.int .i64) (.cons .str .nil)))], [(2, 2, 3)]⟩
theorem h_store_Store_Reset (F_store_Store_save : A_store_Store_save → M_store_Store_save → Option O_store_Store_save) (x1 : Int) (x2 : Int) (x3 : List ByteArray) (x4 : List (Int × ByteArray)) {α : Type} (K : SV → Mem → Option α) : callBody (table [(72, ⟨args_store_Store_save, mem_store_Store_save, outs_store_Store_save, F_store_Store_save⟩)] []) br_store_Store_Reset rc_store_Store_Reset fd_store_Store_Reset (args_store_Store_Reset.svs (x1, ())) (mem_store_Store_Reset.mem ((), ((x2, ()), (x3, (x4, ()))))) K = tree_store_Store_Reset F_store_Store_save x1 x2 x3 x4 (fun r => outsRun outs_store_Store_Reset r K) := by kernel_rfl
noncomputable def C_store_Store_Reset : Con := ⟨args_store_Store_Reset, mem_store_Store_Reset, outs_store_Store_Reset, F_store_Store_Reset⟩
theorem k_store_Store_Reset : Known Try.prog fd_store_Store_Reset [(72, C_store_Store_save)] [] := known_of mixT (by kernel_rfl) ⟨ok_store_Store_save, trivial⟩ trivial
theorem fn_store_Store_Reset : FnOK Try.prog an_store_Store_Reset 32 Try.f32 fd_store_Store_Reset := fnOK (by kernel_rfl) (by kernel_rfl) (by kernel_rfl)
theorem ok_store_Store_Reset : ConOK Try.prog 32 C_store_Store_Reset := con_of k_store_Store_Reset (byRef := br_store_Store_Reset) fn_store_Store_Reset rc_store_Store_Reset args_store_Store_Reset mem_store_Store_Reset outs_store_Store_Reset (fun a b K => tree_store_Store_Reset F_store_Store_save a.1 b.2.1.1 b.2.2.1 b.2.2.2.1 K) (fun a b => h_store_Store_Reset F_store_Store_save a.1 b.2.1.1 b.2.2.1 b.2.2.2.1 _) (fun a b K => n_store_Store_Reset F_store_Store_save a.1 b.2.1.1 b.2.2.1 b.2.2.2.1 K)

def an_store_Store_Intend : Nat → LAnn := fun n => (find n []).getD ⟨0, [], [], [], []⟩
noncomputable def fd_store_Store_Intend : FD := fdOf Try.prog an_store_Store_Intend Try.f34
def br_store_Store_Intend : FuncId → CC := fun f => ⟨([33, 72] : List Nat).contains f, (find f [(33, [0, 1, 2, 3, 4, 5, 6, 7, 8, 9, 10, 11]), (72, [0, 1, 2, 3, 4, 5, 6, 7, 8, 9, 10, 11])]).getD [], (find f []).getD []⟩
def rc_store_Store_Intend : RC := ⟨false, [(2, 2, 127, (.cons (.int .i64) (.cons .str .nil)))], [(2, 2, 3)]⟩
theorem h_store_Store_Intend (F_store_Store_Trust : A_store_Store_Trust → M_store_Store_Trust → Option O_store_Store_Trust) (F_store_Store_save : A_store_Store_save → M_store_Store_save → Option O_store_Store_save) (x1 : Int) (x2 : ByteArray) (x3 : Int) (x4 : Int) (x5 : List ByteArray) (x6 : List (Int × ByteArray)) {α : Type} (K : SV → Mem → Option α) : callBody (table [(33, ⟨args_store_Store_Trust, mem_store_Store_Trust, outs_store_Store_Trust, F_store_Store_Trust⟩), (72, ⟨args_store_Store_save, mem_store_Store_save, outs_store_Store_save, F_store_Store_save⟩)] []) br_store_Store_Intend rc_store_Store_Intend fd_store_Store_Intend (args_store_Store_Intend.svs (x1, (x2, (x3, ())))) (mem_store_Store_Intend.mem ((), ((x4, ()), (x5, (x6, ()))))) K = tree_store_Store_Intend F_store_Store_Trust F_store_Store_save x1 x2 x3 x4 x5 x6 (fun r => outsRun outs_store_Store_Intend r K) := by kernel_rfl
noncomputable def C_store_Store_Intend : Con := ⟨args_store_Store_Intend, mem_store_Store_Intend, outs_store_Store_Intend, F_store_Store_Intend⟩
theorem k_store_Store_Intend : Known Try.prog fd_store_Store_Intend [(33, C_store_Store_Trust), (72, C_store_Store_save)] [] := known_of mixT (by kernel_rfl) ⟨ok_store_Store_Trust, ok_store_Store_save, trivial⟩ trivial
theorem fn_store_Store_Intend : FnOK Try.prog an_store_Store_Intend 34 Try.f34 fd_store_Store_Intend := fnOK (by kernel_rfl) (by kernel_rfl) (by kernel_rfl)
theorem ok_store_Store_Intend : ConOK Try.prog 34 C_store_Store_Intend := con_of k_store_Store_Intend (byRef := br_store_Store_Intend) fn_store_Store_Intend rc_store_Store_Intend args_store_Store_Intend mem_store_Store_Intend outs_store_Store_Intend (fun a b K => tree_store_Store_Intend F_store_Store_Trust F_store_Store_save a.1 a.2.1 a.2.2.1 b.2.1.1 b.2.2.1 b.2.2.2.1 K) (fun a b => h_store_Store_Intend F_store_Store_Trust F_store_Store_save a.1 a.2.1 a.2.2.1 b.2.1.1 b.2.2.1 b.2.2.2.1 _) (fun a b K => n_store_Store_Intend F_store_Store_Trust F_store_Store_save a.1 a.2.1 a.2.2.1 b.2.1.1 b.2.2.1 b.2.2.2.1 K)

def an_store_Store_Settle : Nat → LAnn := fun n => (find n []).getD ⟨0, [], [], [], []⟩
noncomputable def fd_store_Store_Settle : FD := fdOf Try.prog an_store_Store_Settle Try.f36
def br_store_Store_Settle : FuncId → CC := fun f => ⟨([33, 72] : List Nat).contains f, (find f [(33, [0, 1, 2, 3, 4, 5, 6, 7, 8, 9, 10, 11]), (72, [0, 1, 2, 3, 4, 5, 6, 7, 8, 9, 10, 11])]).getD [], (find f []).getD []⟩
def rc_store_Store_Settle : RC := ⟨false, [(2, 2, 127, (.cons (.int .i64) (.cons .str .nil)))], [(2, 2, 3)]⟩
theorem h_store_Store_Settle (F_store_Store_Trust : A_store_Store_Trust → M_store_Store_Trust → Option O_store_Store_Trust) (F_store_Store_save : A_store_Store_save → M_store_Store_save → Option O_store_Store_save) (x1 : Bool) (x2 : Int) (x3 : List ByteArray) (x4 : List (Int × ByteArray)) {α : Type} (K : SV → Mem → Option α) : callBody (table [(33, ⟨args_store_Store_Trust, mem_store_Store_Trust, outs_store_Store_Trust, F_store_Store_Trust⟩), (72, ⟨args_store_Store_save, mem_store_Store_save, outs_store_Store_save, F_store_Store_save⟩)] []) br_store_Store_Settle rc_store_Store_Settle fd_store_Store_Settle (args_store_Store_Settle.svs (x1, ())) (mem_store_Store_Settle.mem ((), ((x2, ()), (x3, (x4, ()))))) K = tree_store_Store_Settle F_store_Store_Trust F_store_Store_save x1 x2 x3 x4 (fun r => outsRun outs_store_Store_Settle r K) := by kernel_rfl
noncomputable def C_store_Store_Settle : Con := ⟨args_store_Store_Settle, mem_store_Store_Settle, outs_store_Store_Settle, F_store_Store_Settle⟩
theorem k_store_Store_Settle : Known Try.prog fd_store_Store_Settle [(33, C_store_Store_Trust), (72, C_store_Store_save)] [] := known_of mixT (by kernel_rfl) ⟨ok_store_Store_Trust, ok_store_Store_save, trivial⟩ trivial
theorem fn_store_Store_Settle : FnOK Try.prog an_store_Store_Settle 36 Try.f36 fd_store_Store_Settle := fnOK (by kernel_rfl) (by kernel_rfl) (by kernel_rfl)
theorem ok_store_Store_Settle : ConOK Try.prog 36 C_store_Store_Settle := con_of k_store_Store_Settle (byRef := br_store_Store_Settle) fn_store_Store_Settle rc_store_Store_Settle args_store_Store_Settle mem_store_Store_Settle outs_store_Store_Settle (fun a b K => tree_store_Store_Settle F_store_Store_Trust F_store_Store_save a.1 b.2.1.1 b.2.2.1 b.2.2.2.1 K) (fun a b => h_store_Store_Settle F_store_Store_Trust F_store_Store_save a.1 b.2.1.1 b.2.2.1 b.2.2.2.1 _) (fun a b K => n_store_Store_Settle F_store_Store_Trust F_store_Store_save a.1 b.2.1.1 b.2.2.1 b.2.2.2.1 K)

end Go.Proofs.Ytlfedmjjjbhnpaa.S2
