/- The program's functions come to their plain forms, by program. -/
import Derived.Test.YtjhaidbfahobmaaGrref
import Derived.Test.YtjhaidbfahobmaaHbase
set_option maxRecDepth 100000
set_option maxHeartbeats 0
set_option linter.unusedVariables false
set_option linter.unusedSimpArgs false
namespace Go.Proofs.Ytjhaidbfahobmaa.S2
open Go
def an_ref15_Last : Nat → LAnn := fun n => (find n []).getD ⟨0, [], [], [], []⟩
noncomputable def fd_ref15_Last : FD := fdOf Try.prog an_ref15_Last Try.f39
def br_ref15_Last : FuncId → CC := fun f => ⟨([] : List Nat).contains f, (find f []).getD [], (find f []).getD []⟩
def rc_ref15_Last : RC := ⟨true, [], []⟩
theorem h_ref15_Last (x1 : Int) (x2 : Int) (x3 : List (Int × Int × ByteArray)) {α : Type} (K : SV → Mem → Option α) : callBody (table [] []) br_ref15_Last rc_ref15_Last fd_ref15_Last (args_ref15_Last.svs ((x1, (x2, (x3, ()))), ())) (mem_ref15_Last.mem ()) K = tree_ref15_Last x1 x2 x3 (fun r => outsRun outs_ref15_Last r K) := by kernel_rfl
noncomputable def C_ref15_Last : Con := ⟨args_ref15_Last, mem_ref15_Last, outs_ref15_Last, F_ref15_Last⟩
theorem k_ref15_Last : Known Try.prog fd_ref15_Last [] [] := known_of mixT (by kernel_rfl) trivial trivial
theorem fn_ref15_Last : FnOK Try.prog an_ref15_Last 39 Try.f39 fd_ref15_Last := fnOK (by kernel_rfl) (by kernel_rfl) (by kernel_rfl)
theorem ok_ref15_Last : ConOK Try.prog 39 C_ref15_Last := con_of k_ref15_Last (byRef := br_ref15_Last) fn_ref15_Last rc_ref15_Last args_ref15_Last mem_ref15_Last outs_ref15_Last (fun a b K => tree_ref15_Last a.1.1 a.1.2.1 a.1.2.2.1 K) (fun a b => h_ref15_Last a.1.1 a.1.2.1 a.1.2.2.1 _) (fun a b K => n_ref15_Last a.1.1 a.1.2.1 a.1.2.2.1 K)

def an_ref15_Entry : Nat → LAnn := fun n => (find n [(2, ⟨2, [1, 2, 4, 6], [], [5, 6, 7, 8, 9, 10, 11, 12, 13, 14, 15, 16, 17, 18, 19, 20, 21, 22, 23, 24, 25, 26], [4, 5]⟩)]).getD ⟨0, [], [], [], []⟩
noncomputable def fd_ref15_Entry : FD := fdOf Try.prog an_ref15_Entry Try.f43
def br_ref15_Entry : FuncId → CC := fun f => ⟨([] : List Nat).contains f, (find f []).getD [], (find f []).getD []⟩
def rc_ref15_Entry : RC := ⟨true, [], []⟩
theorem hl_ref15_Entry_2 (x1 : Int) (x2 : Int) (x3 : Int) (x4 : Int) (x5 : List (Int × Int × ByteArray)) (x6 : Int) (x7 : Int) (x8 : ByteArray) {α : Type} (kn : St → Option α) (K : Out → St → Option α) : round (table [] []) br_ref15_Entry (an_ref15_Entry 2) (fd_ref15_Entry.loop 2) kn ⟨ltmps_ref15_Entry_2.svs (x1, (x2, ())), lmem_ref15_Entry_2.mem ((x3, (x4, (x5, ()))), ((x6, (x7, (x8, ()))), ()))⟩ K = ltree_ref15_Entry_2 x1 x2 x3 x4 x5 x6 x7 x8 (fun a b => kn ⟨ltmps_ref15_Entry_2.svs a, lmem_ref15_Entry_2.mem b⟩) (fun r => outLsRun louts_ref15_Entry_2 r K) := by kernel_rfl
noncomputable def D_ref15_Entry_2 : LCon := ⟨ltmps_ref15_Entry_2, lmem_ref15_Entry_2, louts_ref15_Entry_2, L_ref15_Entry_2⟩
theorem kl_ref15_Entry_2 : Known Try.prog fd_ref15_Entry [] [] := known_of mixT (by kernel_rfl) trivial trivial
theorem okl_ref15_Entry_2 : LConOK Try.prog (fd_ref15_Entry.loop 2) D_ref15_Entry_2 := lcon_of kl_ref15_Entry_2 (byRef := br_ref15_Entry) (lan := an_ref15_Entry 2) (id := 2) (by kernel_rfl) ltmps_ref15_Entry_2 lmem_ref15_Entry_2 louts_ref15_Entry_2 (fun a b kn kr => ltree_ref15_Entry_2 a.1 a.2.1 b.1.1 b.1.2.1 b.1.2.2.1 b.2.1.1 b.2.1.2.1 b.2.1.2.2.1 kn kr) (fun a b => hl_ref15_Entry_2 a.1 a.2.1 b.1.1 b.1.2.1 b.1.2.2.1 b.2.1.1 b.2.1.2.1 b.2.1.2.2.1 _ _) (fun a b kn kr => nl_ref15_Entry_2 a.1 a.2.1 b.1.1 b.1.2.1 b.1.2.2.1 b.2.1.1 b.2.1.2.1 b.2.1.2.2.1 kn kr)
theorem h_ref15_Entry (L_ref15_Entry_2 : LT_ref15_Entry_2 → LM_ref15_Entry_2 → Option LO_ref15_Entry_2) (x1 : Int) (x2 : Int) (x3 : List (Int × Int × ByteArray)) (x4 : Int) {α : Type} (K : SV → Mem → Option α) : callBody (table [] [(2, ⟨ltmps_ref15_Entry_2, lmem_ref15_Entry_2, louts_ref15_Entry_2, L_ref15_Entry_2⟩)]) br_ref15_Entry rc_ref15_Entry fd_ref15_Entry (args_ref15_Entry.svs ((x1, (x2, (x3, ()))), (x4, ()))) (mem_ref15_Entry.mem ()) K = tree_ref15_Entry L_ref15_Entry_2 x1 x2 x3 x4 (fun r => outsRun outs_ref15_Entry r K) := by kernel_rfl
noncomputable def C_ref15_Entry : Con := ⟨args_ref15_Entry, mem_ref15_Entry, outs_ref15_Entry, F_ref15_Entry⟩
theorem k_ref15_Entry : Known Try.prog fd_ref15_Entry [] [(2, D_ref15_Entry_2)] := known_of mixT (by kernel_rfl) trivial ⟨okl_ref15_Entry_2, trivial⟩
theorem fn_ref15_Entry : FnOK Try.prog an_ref15_Entry 43 Try.f43 fd_ref15_Entry := fnOK (by kernel_rfl) (by kernel_rfl) (by kernel_rfl)
theorem ok_ref15_Entry : ConOK Try.prog 43 C_ref15_Entry := con_of k_ref15_Entry (byRef := br_ref15_Entry) fn_ref15_Entry rc_ref15_Entry args_ref15_Entry mem_ref15_Entry outs_ref15_Entry (fun a b K => tree_ref15_Entry L_ref15_Entry_2 a.1.1 a.1.2.1 a.1.2.2.1 a.2.1 K) (fun a b => h_ref15_Entry L_ref15_Entry_2 a.1.1 a.1.2.1 a.1.2.2.1 a.2.1 _) (fun a b K => n_ref15_Entry L_ref15_Entry_2 a.1.1 a.1.2.1 a.1.2.2.1 a.2.1 K)

def an_ref15_Term : Nat → LAnn := fun n => (find n []).getD ⟨0, [], [], [], []⟩
noncomputable def fd_ref15_Term : FD := fdOf Try.prog an_ref15_Term Try.f40
def br_ref15_Term : FuncId → CC := fun f => ⟨([] : List Nat).contains f, (find f []).getD [], (find f []).getD []⟩
def rc_ref15_Term : RC := ⟨true, [], []⟩
theorem h_ref15_Term (F_ref15_Entry : A_ref15_Entry → M_ref15_Entry → Option O_ref15_Entry) (x1 : Int) (x2 : Int) (x3 : List (Int × Int × ByteArray)) (x4 : Int) {α : Type} (K : SV → Mem → Option α) : callBody (table [(43, ⟨args_ref15_Entry, mem_ref15_Entry, outs_ref15_Entry, F_ref15_Entry⟩)] []) br_ref15_Term rc_ref15_Term fd_ref15_Term (args_ref15_Term.svs ((x1, (x2, (x3, ()))), (x4, ()))) (mem_ref15_Term.mem ()) K = tree_ref15_Term F_ref15_Entry x1 x2 x3 x4 (fun r => outsRun outs_ref15_Term r K) := by kernel_rfl
noncomputable def C_ref15_Term : Con := ⟨args_ref15_Term, mem_ref15_Term, outs_ref15_Term, F_ref15_Term⟩
theorem k_ref15_Term : Known Try.prog fd_ref15_Term [(43, C_ref15_Entry)] [] := known_of mixT (by kernel_rfl) ⟨ok_ref15_Entry, trivial⟩ trivial
theorem fn_ref15_Term : FnOK Try.prog an_ref15_Term 40 Try.f40 fd_ref15_Term := fnOK (by kernel_rfl) (by kernel_rfl) (by kernel_rfl)
theorem ok_ref15_Term : ConOK Try.prog 40 C_ref15_Term := con_of k_ref15_Term (byRef := br_ref15_Term) fn_ref15_Term rc_ref15_Term args_ref15_Term mem_ref15_Term outs_ref15_Term (fun a b K => tree_ref15_Term F_ref15_Entry a.1.1 a.1.2.1 a.1.2.2.1 a.2.1 K) (fun a b => h_ref15_Term F_ref15_Entry a.1.1 a.1.2.1 a.1.2.2.1 a.2.1 _) (fun a b K => n_ref15_Term F_ref15_Entry a.1.1 a.1.2.1 a.1.2.2.1 a.2.1 K)

def an_ref15_Slice : Nat → LAnn := fun n => (find n [(3, ⟨3, [1, 2, 3, 7, 8], [(.slot 7, 507, 70, (.cons (.int .u64) (.cons (.int .i64) (.cons .str .nil))))], [7, 8, 9, 10, 15, 16, 17, 18, 19, 20, 21, 22, 23, 24, 25, 26, 27, 28, 29, 30, 31, 32, 33, 34, 35, 36, 37, 38, 39], [7]⟩)]).getD ⟨0, [], [], [], []⟩
noncomputable def fd_ref15_Slice : FD := fdOf Try.prog an_ref15_Slice Try.f41
def br_ref15_Slice : FuncId → CC := fun f => ⟨([] : List Nat).contains f, (find f []).getD [], (find f []).getD []⟩
def rc_ref15_Slice : RC := ⟨true, [], []⟩
theorem hl_ref15_Slice_3 (F_ref15_Last : A_ref15_Last → M_ref15_Last → Option O_ref15_Last) (F_ref15_Entry : A_ref15_Entry → M_ref15_Entry → Option O_ref15_Entry) (x1 : Int) (x2 : Int) (x3 : Int) (x4 : List (Int × Int × ByteArray)) (x5 : Int) (x6 : Int) (x7 : List (Int × Int × ByteArray)) {α : Type} (kn : St → Option α) (K : Out → St → Option α) : round (table [(39, ⟨args_ref15_Last, mem_ref15_Last, outs_ref15_Last, F_ref15_Last⟩), (43, ⟨args_ref15_Entry, mem_ref15_Entry, outs_ref15_Entry, F_ref15_Entry⟩)] []) br_ref15_Slice (an_ref15_Slice 3) (fd_ref15_Slice.loop 3) kn ⟨ltmps_ref15_Slice_3.svs (x1, (x2, (x3, ()))), lmem_ref15_Slice_3.mem (x4, ((x5, (x6, (x7, ()))), ()))⟩ K = ltree_ref15_Slice_3 F_ref15_Last F_ref15_Entry x1 x2 x3 x4 x5 x6 x7 (fun a b => kn ⟨ltmps_ref15_Slice_3.svs a, lmem_ref15_Slice_3.mem b⟩) (fun r => outLsRun louts_ref15_Slice_3 r K) := by kernel_rfl
noncomputable def D_ref15_Slice_3 : LCon := ⟨ltmps_ref15_Slice_3, lmem_ref15_Slice_3, louts_ref15_Slice_3, L_ref15_Slice_3⟩
theorem kl_ref15_Slice_3 : Known Try.prog fd_ref15_Slice [(39, C_ref15_Last), (43, C_ref15_Entry)] [] := known_of mixT (by kernel_rfl) ⟨ok_ref15_Last, ok_ref15_Entry, trivial⟩ trivial
theorem okl_ref15_Slice_3 : LConOK Try.prog (fd_ref15_Slice.loop 3) D_ref15_Slice_3 := lcon_of kl_ref15_Slice_3 (byRef := br_ref15_Slice) (lan := an_ref15_Slice 3) (id := 3) (by kernel_rfl) ltmps_ref15_Slice_3 lmem_ref15_Slice_3 louts_ref15_Slice_3 (fun a b kn kr => ltree_ref15_Slice_3 F_ref15_Last F_ref15_Entry a.1 a.2.1 a.2.2.1 b.1 b.2.1.1 b.2.1.2.1 b.2.1.2.2.1 kn kr) (fun a b => hl_ref15_Slice_3 F_ref15_Last F_ref15_Entry a.1 a.2.1 a.2.2.1 b.1 b.2.1.1 b.2.1.2.1 b.2.1.2.2.1 _ _) (fun a b kn kr => nl_ref15_Slice_3 F_ref15_Last F_ref15_Entry a.1 a.2.1 a.2.2.1 b.1 b.2.1.1 b.2.1.2.1 b.2.1.2.2.1 kn kr)
theorem h_ref15_Slice (F_ref15_Last : A_ref15_Last → M_ref15_Last → Option O_ref15_Last) (F_ref15_Entry : A_ref15_Entry → M_ref15_Entry → Option O_ref15_Entry) (L_ref15_Slice_3 : LT_ref15_Slice_3 → LM_ref15_Slice_3 → Option LO_ref15_Slice_3) (x1 : Int) (x2 : Int) (x3 : List (Int × Int × ByteArray)) (x4 : Int) (x5 : Int) {α : Type} (K : SV → Mem → Option α) : callBody (table [(39, ⟨args_ref15_Last, mem_ref15_Last, outs_ref15_Last, F_ref15_Last⟩), (43, ⟨args_ref15_Entry, mem_ref15_Entry, outs_ref15_Entry, F_ref15_Entry⟩)] [(3, ⟨ltmps_ref15_Slice_3, lmem_ref15_Slice_3, louts_ref15_Slice_3, L_ref15_Slice_3⟩)]) br_ref15_Slice rc_ref15_Slice fd_ref15_Slice (args_ref15_Slice.svs ((x1, (x2, (x3, ()))), (x4, (x5, ())))) (mem_ref15_Slice.mem ()) K = tree_ref15_Slice L_ref15_Slice_3 x1 x2 x3 x4 x5 (fun r => outsRun outs_ref15_Slice r K) := by kernel_rfl
noncomputable def C_ref15_Slice : Con := ⟨args_ref15_Slice, mem_ref15_Slice, outs_ref15_Slice, F_ref15_Slice⟩
theorem k_ref15_Slice : Known Try.prog fd_ref15_Slice [(39, C_ref15_Last), (43, C_ref15_Entry)] [(3, D_ref15_Slice_3)] := known_of mixT (by kernel_rfl) ⟨ok_ref15_Last, ok_ref15_Entry, trivial⟩ ⟨okl_ref15_Slice_3, trivial⟩
theorem fn_ref15_Slice : FnOK Try.prog an_ref15_Slice 41 Try.f41 fd_ref15_Slice := fnOK (by kernel_rfl) (by kernel_rfl) (by kernel_rfl)
theorem ok_ref15_Slice : ConOK Try.prog 41 C_ref15_Slice := con_of k_ref15_Slice (byRef := br_ref15_Slice) fn_ref15_Slice rc_ref15_Slice args_ref15_Slice mem_ref15_Slice outs_ref15_Slice (fun a b K => tree_ref15_Slice L_ref15_Slice_3 a.1.1 a.1.2.1 a.1.2.2.1 a.2.1 a.2.2.1 K) (fun a b => h_ref15_Slice F_ref15_Last F_ref15_Entry L_ref15_Slice_3 a.1.1 a.1.2.1 a.1.2.2.1 a.2.1 a.2.2.1 _) (fun a b K => n_ref15_Slice L_ref15_Slice_3 a.1.1 a.1.2.1 a.1.2.2.1 a.2.1 a.2.2.1 K)

def an_ref15_Newer : Nat → LAnn := fun n => (find n []).getD ⟨0, [], [], [], []⟩
noncomputable def fd_ref15_Newer : FD := fdOf Try.prog an_ref15_Newer Try.f46
def br_ref15_Newer : FuncId → CC := fun f => ⟨([] : List Nat).contains f, (find f []).getD [], (find f []).getD []⟩
def rc_ref15_Newer : RC := ⟨true, [], []⟩
theorem h_ref15_Newer (F_ref15_Last : A_ref15_Last → M_ref15_Last → Option O_ref15_Last) (F_ref15_Term : A_ref15_Term → M_ref15_Term → Option O_ref15_Term) (x1 : Int) (x2 : Int) (x3 : List (Int × Int × ByteArray)) (x4 : Int) (x5 : Int) {α : Type} (K : SV → Mem → Option α) : callBody (table [(39, ⟨args_ref15_Last, mem_ref15_Last, outs_ref15_Last, F_ref15_Last⟩), (40, ⟨args_ref15_Term, mem_ref15_Term, outs_ref15_Term, F_ref15_Term⟩)] []) br_ref15_Newer rc_ref15_Newer fd_ref15_Newer (args_ref15_Newer.svs ((x1, (x2, (x3, ()))), (x4, (x5, ())))) (mem_ref15_Newer.mem ()) K = tree_ref15_Newer F_ref15_Last F_ref15_Term x1 x2 x3 x4 x5 (fun r => outsRun outs_ref15_Newer r K) := by kernel_rfl
noncomputable def C_ref15_Newer : Con := ⟨args_ref15_Newer, mem_ref15_Newer, outs_ref15_Newer, F_ref15_Newer⟩
theorem k_ref15_Newer : Known Try.prog fd_ref15_Newer [(39, C_ref15_Last), (40, C_ref15_Term)] [] := known_of mixT (by kernel_rfl) ⟨ok_ref15_Last, ok_ref15_Term, trivial⟩ trivial
theorem fn_ref15_Newer : FnOK Try.prog an_ref15_Newer 46 Try.f46 fd_ref15_Newer := fnOK (by kernel_rfl) (by kernel_rfl) (by kernel_rfl)
theorem ok_ref15_Newer : ConOK Try.prog 46 C_ref15_Newer := con_of k_ref15_Newer (byRef := br_ref15_Newer) fn_ref15_Newer rc_ref15_Newer args_ref15_Newer mem_ref15_Newer outs_ref15_Newer (fun a b K => tree_ref15_Newer F_ref15_Last F_ref15_Term a.1.1 a.1.2.1 a.1.2.2.1 a.2.1 a.2.2.1 K) (fun a b => h_ref15_Newer F_ref15_Last F_ref15_Term a.1.1 a.1.2.1 a.1.2.2.1 a.2.1 a.2.2.1 _) (fun a b K => n_ref15_Newer F_ref15_Last F_ref15_Term a.1.1 a.1.2.1 a.1.2.2.1 a.2.1 a.2.2.1 K)

def an_ref15_May : Nat → LAnn := fun n => (find n []).getD ⟨0, [], [], [], []⟩
noncomputable def fd_ref15_May : FD := fdOf Try.prog an_ref15_May Try.f13
def br_ref15_May : FuncId → CC := fun f => ⟨([] : List Nat).contains f, (find f []).getD [], (find f []).getD []⟩
def rc_ref15_May : RC := ⟨true, [], []⟩
theorem h_ref15_May (x1 : Int) (x2 : Int) (x3 : List (Int × Int × ByteArray)) {α : Type} (K : SV → Mem → Option α) : callBody (table [] []) br_ref15_May rc_ref15_May fd_ref15_May (args_ref15_May.svs ((x1, (x2, (x3, ()))), ())) (mem_ref15_May.mem ()) K = tree_ref15_May x1 x2 x3 (fun r => outsRun outs_ref15_May r K) := by kernel_rfl
noncomputable def C_ref15_May : Con := ⟨args_ref15_May, mem_ref15_May, outs_ref15_May, F_ref15_May⟩
theorem k_ref15_May : Known Try.prog fd_ref15_May [] [] := known_of mixT (by kernel_rfl) trivial trivial
theorem fn_ref15_May : FnOK Try.prog an_ref15_May 13 Try.f13 fd_ref15_May := fnOK (by kernel_rfl) (by kernel_rfl) (by kernel_rfl)
theorem ok_ref15_May : ConOK Try.prog 13 C_ref15_May := con_of k_ref15_May (byRef := br_ref15_May) fn_ref15_May rc_ref15_May args_ref15_May mem_ref15_May outs_ref15_May (fun a b K => tree_ref15_May a.1.1 a.1.2.1 a.1.2.2.1 K) (fun a b => h_ref15_May a.1.1 a.1.2.1 a.1.2.2.1 _) (fun a b K => n_ref15_May a.1.1 a.1.2.1 a.1.2.2.1 K)

def an_ref15_Entries : Nat → LAnn := fun n => (find n [(4, ⟨4, [0, 1, 5], [], [4, 5, 11, 12, 13, 14, 15, 16, 17, 18, 19, 20, 21, 22, 23, 24, 25], [4]⟩)]).getD ⟨0, [], [], [], []⟩
noncomputable def fd_ref15_Entries : FD := fdOf Try.prog an_ref15_Entries Try.f16
def br_ref15_Entries : FuncId → CC := fun f => ⟨([] : List Nat).contains f, (find f []).getD [], (find f []).getD []⟩
def rc_ref15_Entries : RC := ⟨true, [], []⟩
theorem hl_ref15_Entries_4 (x1 : List (Int × Int × ByteArray)) (x2 : List (Int × Int × ByteArray)) (x3 : Int) {α : Type} (kn : St → Option α) (K : Out → St → Option α) : round (table [] []) br_ref15_Entries (an_ref15_Entries 4) (fd_ref15_Entries.loop 4) kn ⟨ltmps_ref15_Entries_4.svs (x1, (x2, (x3, ()))), lmem_ref15_Entries_4.mem ()⟩ K = ltree_ref15_Entries_4 x1 x2 x3 (fun a b => kn ⟨ltmps_ref15_Entries_4.svs a, lmem_ref15_Entries_4.mem b⟩) (fun r => outLsRun louts_ref15_Entries_4 r K) := by kernel_rfl
noncomputable def D_ref15_Entries_4 : LCon := ⟨ltmps_ref15_Entries_4, lmem_ref15_Entries_4, louts_ref15_Entries_4, L_ref15_Entries_4⟩
theorem kl_ref15_Entries_4 : Known Try.prog fd_ref15_Entries [] [] := known_of mixT (by kernel_rfl) trivial trivial
theorem okl_ref15_Entries_4 : LConOK Try.prog (fd_ref15_Entries.loop 4) D_ref15_Entries_4 := lcon_of kl_ref15_Entries_4 (byRef := br_ref15_Entries) (lan := an_ref15_Entries 4) (id := 4) (by kernel_rfl) ltmps_ref15_Entries_4 lmem_ref15_Entries_4 louts_ref15_Entries_4 (fun a b kn kr => ltree_ref15_Entries_4 a.1 a.2.1 a.2.2.1 kn kr) (fun a b => hl_ref15_Entries_4 a.1 a.2.1 a.2.2.1 _ _) (fun a b kn kr => nl_ref15_Entries_4 a.1 a.2.1 a.2.2.1 kn kr)
theorem h_ref15_Entries (L_ref15_Entries_4 : LT_ref15_Entries_4 → LM_ref15_Entries_4 → Option LO_ref15_Entries_4) (x1 : List (Int × Int × ByteArray)) (x2 : List (Int × Int × ByteArray)) {α : Type} (K : SV → Mem → Option α) : callBody (table [] [(4, ⟨ltmps_ref15_Entries_4, lmem_ref15_Entries_4, louts_ref15_Entries_4, L_ref15_Entries_4⟩)]) br_ref15_Entries rc_ref15_Entries fd_ref15_Entries (args_ref15_Entries.svs (x1, (x2, ()))) (mem_ref15_Entries.mem ()) K = tree_ref15_Entries L_ref15_Entries_4 x1 x2 (fun r => outsRun outs_ref15_Entries r K) := by kernel_rfl
noncomputable def C_ref15_Entries : Con := ⟨args_ref15_Entries, mem_ref15_Entries, outs_ref15_Entries, F_ref15_Entries⟩
theorem k_ref15_Entries : Known Try.prog fd_ref15_Entries [] [(4, D_ref15_Entries_4)] := known_of mixT (by kernel_rfl) trivial ⟨okl_ref15_Entries_4, trivial⟩
theorem fn_ref15_Entries : FnOK Try.prog an_ref15_Entries 16 Try.f16 fd_ref15_Entries := fnOK (by kernel_rfl) (by kernel_rfl) (by kernel_rfl)
theorem ok_ref15_Entries : ConOK Try.prog 16 C_ref15_Entries := con_of k_ref15_Entries (byRef := br_ref15_Entries) fn_ref15_Entries rc_ref15_Entries args_ref15_Entries mem_ref15_Entries outs_ref15_Entries (fun a b K => tree_ref15_Entries L_ref15_Entries_4 a.1 a.2.1 K) (fun a b => h_ref15_Entries L_ref15_Entries_4 a.1 a.2.1 _) (fun a b K => n_ref15_Entries L_ref15_Entries_4 a.1 a.2.1 K)

end Go.Proofs.Ytjhaidbfahobmaa.S2
