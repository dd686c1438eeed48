/- The program's functions come to their plain forms, by program. -/
import Derived.Test.YtlfedmjjjbhnpaaGrstore
import Derived.Test.YtlfedmjjjbhnpaaHrslot
import Derived.Test.YtlfedmjjjbhnpaaHrwire
set_option maxRecDepth 100000
set_option maxHeartbeats 0
set_option linter.unusedVariables false
set_option linter.unusedSimpArgs false
namespace Go.Proofs.Ytlfedmjjjbhnpaa.S2
open Go
def an_ref22_Text : Nat → LAnn := fun n => (find n []).getD ⟨0, [], [], [], []⟩
noncomputable def fd_ref22_Text : FD := fdOf Try.prog an_ref22_Text Try.f29
def br_ref22_Text : FuncId → CC := fun f => ⟨([] : List Nat).contains f, (find f []).getD [], (find f []).getD []⟩
def rc_ref22_Text : RC := ⟨true, [], []⟩
theorem h_ref22_Text (F_ref01_PutUint : A_ref01_PutUint → M_ref01_PutUint → Option O_ref01_PutUint) (F_ref01_PutText : A_ref01_PutText → M_ref01_PutText → Option O_ref01_PutText) (x1 : Int) (x2 : Int) (x3 : Int) (x4 : Int) (x5 : Int) (x6 : ByteArray) {α : Type} (K : SV → Mem → Option α) : callBody (table [(70, ⟨args_ref01_PutUint, mem_ref01_PutUint, outs_ref01_PutUint, F_ref01_PutUint⟩), (71, ⟨args_ref01_PutText, mem_ref01_PutText, outs_ref01_PutText, F_ref01_PutText⟩)] []) br_ref22_Text rc_ref22_Text fd_ref22_Text (args_ref22_Text.svs ((x1, (x2, (x3, (x4, (x5, (x6, ())))))), ())) (mem_ref22_Text.mem ()) K = tree_ref22_Text F_ref01_PutUint F_ref01_PutText x1 x2 x3 x4 x5 x6 (fun r => outsRun outs_ref22_Text r K) := by kernel_rfl
noncomputable def C_ref22_Text : Con := ⟨args_ref22_Text, mem_ref22_Text, outs_ref22_Text, F_ref22_Text⟩
theorem k_ref22_Text : Known Try.prog fd_ref22_Text [(70, C_ref01_PutUint), (71, C_ref01_PutText)] [] := known_of mixT (by kernel_rfl) ⟨ok_ref01_PutUint, ok_ref01_PutText, trivial⟩ trivial
theorem fn_ref22_Text : FnOK Try.prog an_ref22_Text 29 Try.f29 fd_ref22_Text := fnOK (by kernel_rfl) (by kernel_rfl) (by kernel_rfl)
theorem ok_ref22_Text : ConOK Try.prog 29 C_ref22_Text := con_of k_ref22_Text (byRef := br_ref22_Text) fn_ref22_Text rc_ref22_Text args_ref22_Text mem_ref22_Text outs_ref22_Text (fun a b K => tree_ref22_Text F_ref01_PutUint F_ref01_PutText a.1.1 a.1.2.1 a.1.2.2.1 a.1.2.2.2.1 a.1.2.2.2.2.1 a.1.2.2.2.2.2.1 K) (fun a b => h_ref22_Text F_ref01_PutUint F_ref01_PutText a.1.1 a.1.2.1 a.1.2.2.1 a.1.2.2.2.1 a.1.2.2.2.2.1 a.1.2.2.2.2.2.1 _) (fun a b K => n_ref22_Text F_ref01_PutUint F_ref01_PutText a.1.1 a.1.2.1 a.1.2.2.1 a.1.2.2.2.1 a.1.2.2.2.2.1 a.1.2.2.2.2.2.1 K)

def an_ref22_Parse : Nat → LAnn := fun n => (find n []).getD ⟨0, [], [], [], []⟩
noncomputable def fd_ref22_Parse : FD := fdOf Try.prog an_ref22_Parse Try.f27
def br_ref22_Parse : FuncId → CC := fun f => ⟨([] : List Nat).contains f, (find f []).getD [], (find f []).getD []⟩
def rc_ref22_Parse : RC := ⟨true, [], []⟩
theorem h_ref22_Parse (F_ref13_Numbers : A_ref13_Numbers → M_ref13_Numbers → Option O_ref13_Numbers) (F_ref01_TakeText : A_ref01_TakeText → M_ref01_TakeText → Option O_ref01_TakeText) (x1 : ByteArray) {α : Type} (K : SV → Mem → Option α) : callBody (table [(67, ⟨args_ref13_Numbers, mem_ref13_Numbers, outs_ref13_Numbers, F_ref13_Numbers⟩), (68, ⟨args_ref01_TakeText, mem_ref01_TakeText, outs_ref01_TakeText, F_ref01_TakeText⟩)] []) br_ref22_Parse rc_ref22_Parse fd_ref22_Parse (args_ref22_Parse.svs (x1, ())) (mem_ref22_Parse.mem ()) K = tree_ref22_Parse F_ref13_Numbers F_ref01_TakeText x1 (fun r => outsRun outs_ref22_Parse r K) := by kernel_rfl
noncomputable def C_ref22_Parse : Con := ⟨args_ref22_Parse, mem_ref22_Parse, outs_ref22_Parse, F_ref22_Parse⟩
theorem k_ref22_Parse : Known Try.prog fd_ref22_Parse [(67, C_ref13_Numbers), (68, C_ref01_TakeText)] [] := known_of mixT (by kernel_rfl) ⟨ok_ref13_Numbers, ok_ref01_TakeText, trivial⟩ trivial
theorem fn_ref22_Parse : FnOK Try.prog an_ref22_Parse 27 Try.f27 fd_ref22_Parse := fnOK (by kernel_rfl) (by kernel_rfl) (by kernel_rfl)
theorem ok_ref22_Parse : ConOK Try.prog 27 C_ref22_Parse := con_of k_ref22_Parse (byRef := br_ref22_Parse) fn_ref22_Parse rc_ref22_Parse args_ref22_Parse mem_ref22_Parse outs_ref22_Parse (fun a b K => tree_ref22_Parse F_ref13_Numbers F_ref01_TakeText a.1 K) (fun a b => h_ref22_Parse F_ref13_Numbers F_ref01_TakeText a.1 _) (fun a b K => n_ref22_Parse F_ref13_Numbers F_ref01_TakeText a.1 K)

def an_ref22_Trust : Nat → LAnn := fun n => (find n []).getD ⟨0, [], [], [], []⟩
noncomputable def fd_ref22_Trust : FD := fdOf Try.prog an_ref22_Trust Try.f45
def br_ref22_Trust : FuncId → CC := fun f => ⟨([78] : List Nat).contains f, (find f [(78, [0, 1, 2, 3, 4, 5, 6, 7, 8, 9, 10, 11])]).getD [], (find f [(78, [(0, 2, 114, (.cons (.int .i64) (.cons (.int .i64) (.cons .str (.cons (.slc 3 (.cons (.int .i64) .nil)) .nil)))))])]).getD []⟩
def rc_ref22_Trust : RC := ⟨true, [(2, 2, 114, (.cons (.int .i64) (.cons (.int .i64) (.cons .str (.cons (.slc 3 (.cons (.int .i64) .nil)) .nil)))))], []⟩
theorem h_ref22_Trust (F_ref09_Load : A_ref09_Load → M_ref09_Load → Option O_ref09_Load) (F_ref22_Parse : A_ref22_Parse → M_ref22_Parse → Option O_ref22_Parse) (x1 : Int) (x2 : List ByteArray) (x3 : List (Int × Int × ByteArray × List Int)) {α : Type} (K : SV → Mem → Option α) : callBody (table [(78, ⟨args_ref09_Load, mem_ref09_Load, outs_ref09_Load, F_ref09_Load⟩), (27, ⟨args_ref22_Parse, mem_ref22_Parse, outs_ref22_Parse, F_ref22_Parse⟩)] []) br_ref22_Trust rc_ref22_Trust fd_ref22_Trust (args_ref22_Trust.svs ()) (mem_ref22_Trust.mem ((x1, ()), (x2, (x3, ())))) K = tree_ref22_Trust F_ref09_Load F_ref22_Parse x1 x2 x3 (fun r => outsRun routs_ref22_Trust r K) := by kernel_rfl
noncomputable def C_ref22_Trust : Con := ⟨args_ref22_Trust, mem_ref22_Trust, outs_ref22_Trust, F_ref22_Trust⟩
theorem k_ref22_Trust : Known Try.prog fd_ref22_Trust [(78, C_ref09_Load), (27, C_ref22_Parse)] [] := known_of mixT (by kernel_rfl) ⟨ok_ref09_Load, ok_ref22_Parse, trivial⟩ trivial
theorem fn_ref22_Trust : FnOK Try.prog an_ref22_Trust 45 Try.f45 fd_ref22_Trust := fnOK (by kernel_rfl) (by kernel_rfl) (by kernel_rfl)
noncomputable def CR_ref22_Trust : Con := ⟨args_ref22_Trust, mem_ref22_Trust, routs_ref22_Trust, R_ref22_Trust⟩
theorem okr_ref22_Trust : ConOK Try.prog 45 CR_ref22_Trust := con_of k_ref22_Trust (byRef := br_ref22_Trust) fn_ref22_Trust rc_ref22_Trust args_ref22_Trust mem_ref22_Trust routs_ref22_Trust (fun a b K => tree_ref22_Trust F_ref09_Load F_ref22_Parse b.1.1 b.2.1 b.2.2.1 K) (fun a b => h_ref22_Trust F_ref09_Load F_ref22_Parse b.1.1 b.2.1 b.2.2.1 _) (fun a b K => n_ref22_Trust F_ref09_Load F_ref22_Parse b.1.1 b.2.1 b.2.2.1 K)
theorem ok_ref22_Trust : ConOK Try.prog 45 C_ref22_Trust := con_reads okr_ref22_Trust (by rfl) reads_ref22_Trust

def an_ref22_save : Nat → LAnn := fun n => (find n []).getD ⟨0, [], [], [], []⟩
noncomputable def fd_ref22_save : FD := fdOf Try.prog an_ref22_save Try.f76
def br_ref22_save : FuncId → CC := fun f => ⟨([43, 90] : List Nat).contains f, (find f [(43, [0, 1, 2, 3, 4, 5, 6, 7, 8, 9, 10, 11]), (90, [0, 1, 2, 3, 4, 5, 6, 7, 8, 9, 10, 11])]).getD [], (find f [(43, [(0, 2, 114, (.cons (.int .i64) (.cons (.int .i64) (.cons .str (.cons (.slc 3 (.cons (.int .i64) .nil)) .nil)))))]), (90, [(0, 2, 114, (.cons (.int .i64) (.cons (.int .i64) (.cons .str (.cons (.slc 3 (.cons (.int .i64) .nil)) .nil)))))])]).getD []⟩
def rc_ref22_save : RC := ⟨false, [(1, 2, 114, (.cons (.int .i64) (.cons (.int .i64) (.cons .str (.cons (.slc 3 (.cons (.int .i64) .nil)) .nil)))))], [(1, 2, 2)]⟩
theorem h_ref22_save (F_ref22_Text : A_ref22_Text → M_ref22_Text → Option O_ref22_Text) (F_ref09_Begin : A_ref09_Begin → M_ref09_Begin → Option O_ref09_Begin) (F_ref08_Disk_Flush : A_ref08_Disk_Flush → M_ref08_Disk_Flush → Option O_ref08_Disk_Flush) (x1 : Int) (x2 : Int) (x3 : Int) (x4 : Int) (x5 : Int) (x6 : ByteArray) (x7 : Int) (x8 : List ByteArray) (x9 : List (Int × Int × ByteArray × List Int)) {α : Type} (K : SV → Mem → Option α) : callBody (table [(29, ⟨args_ref22_Text, mem_ref22_Text, outs_ref22_Text, F_ref22_Text⟩), (90, ⟨args_ref09_Begin, mem_ref09_Begin, outs_ref09_Begin, F_ref09_Begin⟩), (43, ⟨args_ref08_Disk_Flush, mem_ref08_Disk_Flush, outs_ref08_Disk_Flush, F_ref08_Disk_Flush⟩)] []) br_ref22_save rc_ref22_save fd_ref22_save (args_ref22_save.svs ((x1, (x2, (x3, (x4, (x5, (x6, ())))))), ())) (mem_ref22_save.mem ((x7, ()), (x8, (x9, ())))) K = tree_ref22_save F_ref22_Text F_ref09_Begin F_ref08_Disk_Flush x1 x2 x3 x4 x5 x6 x7 x8 x9 (fun r => outsRun outs_ref22_save r K) := by kernel_rfl
noncomputable def C_ref22_save : Con := ⟨args_ref22_save, mem_ref22_save, outs_ref22_save, F_ref22_save⟩
theorem k_ref22_save : Known Try.prog fd_ref22_save [(29, C_ref22_Text), (90, C_ref09_Begin), (43, C_ref08_Disk_Flush)] [] := known_of mixT (by kernel_rfl) ⟨ok_ref22_Text, ok_ref09_Begin, ok_ref08_Disk_Flush, trivial⟩ trivial
theorem fn_ref22_save : FnOK Try.prog an_ref22_save 76 Try.f76 fd_ref22_save := fnOK (by kernel_rfl) (by kernel_rfl) (by kernel_rfl)
theorem ok_ref22_save : ConOK Try.prog 76 C_ref22_save := con_of k_ref22_save (byRef := br_ref22_save) fn_ref22_save rc_ref22_save args_ref22_save mem_ref22_save outs_ref22_save (fun a b K => tree_ref22_save F_ref22_Text F_ref09_Begin F_ref08_Disk_Flush a.1.1 a.1.2.1 a.1.2.2.1 a.1.2.2.2.1 a.1.2.2.2.2.1 a.1.2.2.2.2.2.1 b.1.1 b.2.1 b.2.2.1 K) (fun a b => h_ref22_save F_ref22_Text F_ref09_Begin F_ref08_Disk_Flush a.1.1 a.1.2.1 a.1.2.2.1 a.1.2.2.2.1 a.1.2.2.2.2.1 a.1.2.2.2.2.2.1 b.1.1 b.2.1 b.2.2.1 _) (fun a b K => n_ref22_save F_ref22_Text F_ref09_Begin F_ref08_Disk_Flush a.1.1 a.1.2.1 a.1.2.2.1 a.1.2.2.2.1 a.1.2.2.2.2.1 a.1.2.2.2.2.2.1 b.1.1 b.2.1 b.2.2.1 K)

def an_ref22_Reset : Nat → LAnn := fun n => (find n []).getD ⟨0, [], [], [], []⟩
noncomputable def fd_ref22_Reset : FD := fdOf Try.prog an_ref22_Reset Try.f38
def br_ref22_Reset : FuncId → CC := fun f => ⟨([76] : List Nat).contains f, (find f [(76, [0, 1, 2, 3, 4, 5, 6, 7, 8, 9, 10, 11])]).getD [], (find f [(76, [(0, 2, 114, (.cons (.int .i64) (.cons (.int .i64) (.cons .str (.cons (.slc 3 (.cons (.int .i64) .nil)) .nil)))))])]).getD []⟩
def rc_ref22_Reset : RC := ⟨false, [(1, 2, 114, (.cons (.int .i64) (.cons (.int .i64) (.cons .str (.cons (.slc 3 (.cons (.int .i64) .nil)) .nil)))))], [(1, 2, 2)]⟩
theorem h_ref22_Reset (F_ref22_save : A_ref22_save → M_ref22_save → Option O_ref22_save) (x1 : Int) (x2 : Int) (x3 : List ByteArray) (x4 : List (Int × Int × ByteArray × List Int)) {α : Type} (K : SV → Mem → Option α) : callBody (table [(76, ⟨args_ref22_save, mem_ref22_save, outs_ref22_save, F_ref22_save⟩)] []) br_ref22_Reset rc_ref22_Reset fd_ref22_Reset (args_ref22_Reset.svs (x1, ())) (mem_ref22_Reset.mem ((x2, ()), (x3, (x4, ())))) K = tree_ref22_Reset F_ref22_save x1 x2 x3 x4 (fun r => outsRun outs_ref22_Reset r K) := by kernel_rfl
noncomputable def C_ref22_Reset : Con := ⟨args_ref22_Reset, mem_ref22_Reset, outs_ref22_Reset, F_ref22_Reset⟩
theorem k_ref22_Reset : Known Try.prog fd_ref22_Reset [(76, C_ref22_save)] [] := known_of mixT (by kernel_rfl) ⟨ok_ref22_save, trivial⟩ trivial
theorem fn_ref22_Reset : FnOK Try.prog an_ref22_Reset 38 Try.f38 fd_ref22_Reset := fnOK (by kernel_rfl) (by kernel_rfl) (by kernel_rfl)
theorem ok_ref22_Reset : ConOK Try.prog 38 C_ref22_Reset := con_of k_ref22_Reset (byRef := br_ref22_Reset) fn_ref22_Reset rc_ref22_Reset args_ref22_Reset mem_ref22_Reset outs_ref22_Reset (fun a b K => tree_ref22_Reset F_ref22_save a.1 b.1.1 b.2.1 b.2.2.1 K) (fun a b => h_ref22_Reset F_ref22_save a.1 b.1.1 b.2.1 b.2.2.1 _) (fun a b K => n_ref22_Reset F_ref22_save a.1 b.1.1 b.2.1 b.2.2.1 K)

def an_ref22_Intend : Nat → LAnn := fun n => (find n []).getD ⟨0, [], [], [], []⟩
noncomputable def fd_ref22_Intend : FD := fdOf Try.prog an_ref22_Intend Try.f39
def br_ref22_Intend : FuncId → CC := fun f => ⟨([45, 76] : List Nat).contains f, (find f [(45, [0, 1, 2, 3, 4, 5, 6, 7, 8, 9, 10, 11]), (76, [0, 1, 2, 3, 4, 5, 6, 7, 8, 9, 10, 11])]).getD [], (find f [(45, [(0, 2, 114, (.cons (.int .i64) (.cons (.int .i64) (.cons .str (.cons (.slc 3 (.cons (.int .i64) .nil)) .nil)))))]), (76, [(0, 2, 114, (.cons (.int .i64) (.cons (.int .i64) (.cons .str (.cons (.slc 3 (.cons (.int .i64) .nil)) .nil)))))])]).getD []⟩
def rc_ref22_Intend : RC := ⟨false, [(1, 2, 114, (.cons (.int .i64) (.cons (.int .i64) (.cons .str (.cons (.slc 3 (.cons (.int .i64) .nil)) .nil)))))], [(1, 2, 2)]⟩
theorem h_ref22_Intend (F_ref22_Trust : A_ref22_Trust → M_ref22_Trust → Option O_ref22_Trust) (F_ref22_save : A_ref22_save → M_ref22_save → Option O_ref22_save) (x1 : Int) (x2 : ByteArray) (x3 : Int) (x4 : Int) (x5 : List ByteArray) (x6 : List (Int × Int × ByteArray × List Int)) {α : Type} (K : SV → Mem → Option α) : callBody (table [(45, ⟨args_ref22_Trust, mem_ref22_Trust, outs_ref22_Trust, F_ref22_Trust⟩), (76, ⟨args_ref22_save, mem_ref22_save, outs_ref22_save, F_ref22_save⟩)] []) br_ref22_Intend rc_ref22_Intend fd_ref22_Intend (args_ref22_Intend.svs (x1, (x2, (x3, ())))) (mem_ref22_Intend.mem ((x4, ()), (x5, (x6, ())))) K = tree_ref22_Intend F_ref22_Trust F_ref22_save x1 x2 x3 x4 x5 x6 (fun r => outsRun outs_ref22_Intend r K) := by kernel_rfl
noncomputable def C_ref22_Intend : Con := ⟨args_ref22_Intend, mem_ref22_Intend, outs_ref22_Intend, F_ref22_Intend⟩
theorem k_ref22_Intend : Known Try.prog fd_ref22_Intend [(45, C_ref22_Trust), (76, C_ref22_save)] [] := known_of mixT (by kernel_rfl) ⟨ok_ref22_Trust, ok_ref22_save, trivial⟩ trivial
theorem fn_ref22_Intend : FnOK Try.prog an_ref22_Intend 39 Try.f39 fd_ref22_Intend := fnOK (by kernel_rfl) (by kernel_rfl) (by kernel_rfl)
theorem ok_ref22_Intend : ConOK Try.prog 39 C_ref22_Intend := con_of k_ref22_Intend (byRef := br_ref22_Intend) fn_ref22_Intend rc_ref22_Intend args_ref22_Intend mem_ref22_Intend outs_ref22_Intend (fun a b K => tree_ref22_Intend F_ref22_Trust F_ref22_save a.1 a.2.1 a.2.2.1 b.1.1 b.2.1 b.2.2.1 K) (fun a b => h_ref22_Intend F_ref22_Trust F_ref22_save a.1 a.2.1 a.2.2.1 b.1.1 b.2.1 b.2.2.1 _) (fun a b K => n_ref22_Intend F_ref22_Trust F_ref22_save a.1 a.2.1 a.2.2.1 b.1.1 b.2.1 b.2.2.1 K)

def an_ref22_Settle : Nat → LAnn := fun n => (find n []).getD ⟨0, [], [], [], []⟩
noncomputable def fd_ref22_Settle : FD := fdOf Try.prog an_ref22_Settle Try.f40
def br_ref22_Settle : FuncId → CC := fun f => ⟨([45, 76] : List Nat).contains f, (find f [(45, [0, 1, 2, 3, 4, 5, 6, 7, 8, 9, 10, 11]), (76, [0, 1, 2, 3, 4, 5, 6, 7, 8, 9, 10, 11])]).getD [], (find f [(45, [(0, 2, 114, (.cons (.int .i64) (.cons (.int .i64) (.cons .str (.cons (.slc 3 (.cons (.int .i64) .nil)) .nil)))))]), (76, [(0, 2, 114, (.cons (.int .i64) (.cons (.int .i64) (.cons .str (.cons (.slc 3 (.cons (.int .i64) .nil)) .nil)))))])]).getD []⟩
def rc_ref22_Settle : RC := ⟨false, [(1, 2, 114, (.cons (.int .i64) (.cons (.int .i64) (.cons .str (.cons (.slc 3 (.cons (.int .i64) .nil)) .nil)))))], [(1, 2, 2)]⟩
theorem h_ref22_Settle (F_ref22_Trust : A_ref22_Trust → M_ref22_Trust → Option O_ref22_Trust) (F_ref22_save : A_ref22_save → M_ref22_save → Option O_ref22_save) (x1 : Bool) (x2 : Int) (x3 : List ByteArray) (x4 : List (Int × Int × ByteArray × List Int)) {α : Type} (K : SV → Mem → Option α) : callBody (table [(45, ⟨args_ref22_Trust, mem_ref22_Trust, outs_ref22_Trust, F_ref22_Trust⟩), (76, ⟨args_ref22_save, mem_ref22_save, outs_ref22_save, F_ref22_save⟩)] []) br_ref22_Settle rc_ref22_Settle fd_ref22_Settle (args_ref22_Settle.svs (x1, ())) (mem_ref22_Settle.mem ((x2, ()), (x3, (x4, ())))) K = tree_ref22_Settle F_ref22_Trust F_ref22_save x1 x2 x3 x4 (fun r => outsRun outs_ref22_Settle r K) := by kernel_rfl
noncomputable def C_ref22_Settle : Con := ⟨args_ref22_Settle, mem_ref22_Settle, outs_ref22_Settle, F_ref22_Settle⟩
theorem k_ref22_Settle : Known Try.prog fd_ref22_Settle [(45, C_ref22_Trust), (76, C_ref22_save)] [] := known_of mixT (by kernel_rfl) ⟨ok_ref22_Trust, ok_ref22_save, trivial⟩ trivial
theorem fn_ref22_Settle : FnOK Try.prog an_ref22_Settle 40 Try.f40 fd_ref22_Settle := fnOK (by kernel_rfl) (by kernel_rfl) (by kernel_rfl)
theorem ok_ref22_Settle : ConOK Try.prog 40 C_ref22_Settle := con_of k_ref22_Settle (byRef := br_ref22_Settle) fn_ref22_Settle rc_ref22_Settle args_ref22_Settle mem_ref22_Settle outs_ref22_Settle (fun a b K => tree_ref22_Settle F_ref22_Trust F_ref22_save a.1 b.1.1 b.2.1 b.2.2.1 K) (fun a b => h_ref22_Settle F_ref22_Trust F_ref22_save a.1 b.1.1 b.2.1 b.2.2.1 _) (fun a b K => n_ref22_Settle F_ref22_Trust F_ref22_save a.1 b.1.1 b.2.1 b.2.2.1 K)

end Go.Proofs.Ytlfedmjjjbhnpaa.S2
