/- The program's functions come to their plain forms, by program. -/
import Derived.Test.YtlmiaagcnhgfmaaG0
import Derived.Test.YtlmiaagcnhgfmaaS2za
import Derived.Test.YtlmiaagcnhgfmaaProg
import Derived.KernelRfl
set_option maxRecDepth 100000
set_option maxHeartbeats 0
set_option linter.unusedVariables false
set_option linter.unusedSimpArgs false
namespace Go.Proofs.Ytlmiaagcnhgfmaa.S2
open Go
theorem mixT : Try.prog.follows .mixedOrders = true := by kernel_rfl
def an_rlog_Entry : Nat → LAnn := fun n => (find n []).getD ⟨0, [], [], [], []⟩
noncomputable def fd_rlog_Entry : FD := fdOf Try.prog an_rlog_Entry Try.f23
def br_rlog_Entry : FuncId → Bool := fun f => ([] : List Nat).contains f
theorem h_rlog_Entry (x1 : Int) (x2 : Int) (x3 : List (Int × Int × ByteArray)) (x4 : Int) {α : Type} (K : SV → Mem → Option α) : callBody (table [] []) br_rlog_Entry true fd_rlog_Entry (args_rlog_Entry.svs ((x1, (x2, (x3, ()))), (x4, ()))) (mem_rlog_Entry.mem ()) K = tree_rlog_Entry x1 x2 x3 x4 (fun r => outsRun outs_rlog_Entry r K) := by kernel_rfl
noncomputable def C_rlog_Entry : Con := ⟨args_rlog_Entry, mem_rlog_Entry, outs_rlog_Entry, F_rlog_Entry⟩
theorem k_rlog_Entry : Known Try.prog fd_rlog_Entry [] [] := known_of mixT (by kernel_rfl) trivial trivial
theorem fn_rlog_Entry : FnOK Try.prog an_rlog_Entry 23 Try.f23 fd_rlog_Entry := fnOK (by kernel_rfl) (by kernel_rfl) (by kernel_rfl)
theorem ok_rlog_Entry : ConOK Try.prog 23 C_rlog_Entry := con_of k_rlog_Entry (byRef := br_rlog_Entry) fn_rlog_Entry true args_rlog_Entry mem_rlog_Entry outs_rlog_Entry (fun a b K => tree_rlog_Entry a.1.1 a.1.2.1 a.1.2.2.1 a.2.1 K) (fun a b => h_rlog_Entry a.1.1 a.1.2.1 a.1.2.2.1 a.2.1 _) (fun a b K => n_rlog_Entry a.1.1 a.1.2.1 a.1.2.2.1 a.2.1 K)

def an_rlog_Term : Nat → LAnn := fun n => (find n []).getD ⟨0, [], [], [], []⟩
noncomputable def fd_rlog_Term : FD := fdOf Try.prog an_rlog_Term Try.f21
def br_rlog_Term : FuncId → Bool := fun f => ([] : List Nat).contains f
theorem h_rlog_Term (F_rlog_Entry : A_rlog_Entry → M_rlog_Entry → Option O_rlog_Entry) (x1 : Int) (x2 : Int) (x3 : List (Int × Int × ByteArray)) (x4 : Int) {α : Type} (K : SV → Mem → Option α) : callBody (table [(23, ⟨args_rlog_Entry, mem_rlog_Entry, outs_rlog_Entry, F_rlog_Entry⟩)] []) br_rlog_Term true fd_rlog_Term (args_rlog_Term.svs ((x1, (x2, (x3, ()))), (x4, ()))) (mem_rlog_Term.mem ()) K = tree_rlog_Term F_rlog_Entry x1 x2 x3 x4 (fun r => outsRun outs_rlog_Term r K) := by kernel_rfl
noncomputable def C_rlog_Term : Con := ⟨args_rlog_Term, mem_rlog_Term, outs_rlog_Term, F_rlog_Term⟩
theorem k_rlog_Term : Known Try.prog fd_rlog_Term [(23, C_rlog_Entry)] [] := known_of mixT (by kernel_rfl) ⟨ok_rlog_Entry, trivial⟩ trivial
theorem fn_rlog_Term : FnOK Try.prog an_rlog_Term 21 Try.f21 fd_rlog_Term := fnOK (by kernel_rfl) (by kernel_rfl) (by kernel_rfl)
theorem ok_rlog_Term : ConOK Try.prog 21 C_rlog_Term := con_of k_rlog_Term (byRef := br_rlog_Term) fn_rlog_Term true args_rlog_Term mem_rlog_Term outs_rlog_Term (fun a b K => tree_rlog_Term F_rlog_Entry a.1.1 a.1.2.1 a.1.2.2.1 a.2.1 K) (fun a b => h_rlog_Term F_rlog_Entry a.1.1 a.1.2.1 a.1.2.2.1 a.2.1 _) (fun a b K => n_rlog_Term F_rlog_Entry a.1.1 a.1.2.1 a.1.2.2.1 a.2.1 K)

def an_rlog_Last : Nat → LAnn := fun n => (find n []).getD ⟨0, [], [], [], []⟩
noncomputable def fd_rlog_Last : FD := fdOf Try.prog an_rlog_Last Try.f22
def br_rlog_Last : FuncId → Bool := fun f => ([] : List Nat).contains f
theorem h_rlog_Last (x1 : Int) (x2 : Int) (x3 : List (Int × Int × ByteArray)) {α : Type} (K : SV → Mem → Option α) : callBody (table [] []) br_rlog_Last true fd_rlog_Last (args_rlog_Last.svs ((x1, (x2, (x3, ()))), ())) (mem_rlog_Last.mem ()) K = tree_rlog_Last x1 x2 x3 (fun r => outsRun outs_rlog_Last r K) := by kernel_rfl
noncomputable def C_rlog_Last : Con := ⟨args_rlog_Last, mem_rlog_Last, outs_rlog_Last, F_rlog_Last⟩
theorem k_rlog_Last : Known Try.prog fd_rlog_Last [] [] := known_of mixT (by kernel_rfl) trivial trivial
theorem fn_rlog_Last : FnOK Try.prog an_rlog_Last 22 Try.f22 fd_rlog_Last := fnOK (by kernel_rfl) (by kernel_rfl) (by kernel_rfl)
theorem ok_rlog_Last : ConOK Try.prog 22 C_rlog_Last := con_of k_rlog_Last (byRef := br_rlog_Last) fn_rlog_Last true args_rlog_Last mem_rlog_Last outs_rlog_Last (fun a b K => tree_rlog_Last a.1.1 a.1.2.1 a.1.2.2.1 K) (fun a b => h_rlog_Last a.1.1 a.1.2.1 a.1.2.2.1 _) (fun a b K => n_rlog_Last a.1.1 a.1.2.1 a.1.2.2.1 K)

def an_rlog_Newer : Nat → LAnn := fun n => (find n []).getD ⟨0, [], [], [], []⟩
noncomputable def fd_rlog_Newer : FD := fdOf Try.prog an_rlog_Newer Try.f24
def br_rlog_Newer : FuncId → Bool := fun f => ([] : List Nat).contains f
theorem h_rlog_Newer (F_rlog_Last : A_rlog_Last → M_rlog_Last → Option O_rlog_Last) (F_rlog_Term : A_rlog_Term → M_rlog_Term → Option O_rlog_Term) (x1 : Int) (x2 : Int) (x3 : List (Int × Int × ByteArray)) (x4 : Int) (x5 : Int) {α : Type} (K : SV → Mem → Option α) : callBody (table [(22, ⟨args_rlog_Last, mem_rlog_Last, outs_rlog_Last, F_rlog_Last⟩), (21, ⟨args_rlog_Term, mem_rlog_Term, outs_rlog_Term, F_rlog_Term⟩)] []) br_rlog_Newer true fd_rlog_Newer (args_rlog_Newer.svs ((x1, (x2, (x3, ()))), (x4, (x5, ())))) (mem_rlog_Newer.mem ()) K = tree_rlog_Newer F_rlog_Last F_rlog_Term x1 x2 x3 x4 x5 (fun r => outsRun outs_rlog_Newer r K) := by kernel_rfl
noncomputable def C_rlog_Newer : Con := ⟨args_rlog_Newer, mem_rlog_Newer, outs_rlog_Newer, F_rlog_Newer⟩
theorem k_rlog_Newer : Known Try.prog fd_rlog_Newer [(22, C_rlog_Last), (21, C_rlog_Term)] [] := known_of mixT (by kernel_rfl) ⟨ok_rlog_Last, ok_rlog_Term, trivial⟩ trivial
theorem fn_rlog_Newer : FnOK Try.prog an_rlog_Newer 24 Try.f24 fd_rlog_Newer := fnOK (by kernel_rfl) (by kernel_rfl) (by kernel_rfl)
theorem ok_rlog_Newer : ConOK Try.prog 24 C_rlog_Newer := con_of k_rlog_Newer (byRef := br_rlog_Newer) fn_rlog_Newer true args_rlog_Newer mem_rlog_Newer outs_rlog_Newer (fun a b K => tree_rlog_Newer F_rlog_Last F_rlog_Term a.1.1 a.1.2.1 a.1.2.2.1 a.2.1 a.2.2.1 K) (fun a b => h_rlog_Newer F_rlog_Last F_rlog_Term a.1.1 a.1.2.1 a.1.2.2.1 a.2.1 a.2.2.1 _) (fun a b K => n_rlog_Newer F_rlog_Last F_rlog_Term a.1.1 a.1.2.1 a.1.2.2.1 a.2.1 a.2.2.1 K)

def an_ref15_Entry : Nat → LAnn := fun n => (find n [(2, ⟨2, [1, 2, 4, 6], [], [5, 6, 7, 8, 9, 10, 11, 12, 13, 14, 15, 16, 17, 18, 19, 20, 21, 22, 23, 24, 25, 26], [4, 5]⟩)]).getD ⟨0, [], [], [], []⟩
noncomputable def fd_ref15_Entry : FD := fdOf Try.prog an_ref15_Entry Try.f27
def br_ref15_Entry : FuncId → Bool := fun f => ([] : List Nat).contains f
theorem hl_ref15_Entry_2 (x1 : Int) (x2 : Int) (x3 : Int) (x4 : Int) (x5 : List (Int × Int × ByteArray)) (x6 : Int) (x7 : Int) (x8 : ByteArray) {α : Type} (kn : St → Option α) (K : Out → St → Option α) : round (table [] []) br_ref15_Entry (an_ref15_Entry 2) (fd_ref15_Entry.loop 2) kn ⟨ltmps_ref15_Entry_2.svs (x1, (x2, ())), lmem_ref15_Entry_2.mem ((x3, (x4, (x5, ()))), ((x6, (x7, (x8, ()))), ()))⟩ K = ltree_ref15_Entry_2 x1 x2 x3 x4 x5 x6 x7 x8 (fun a b => kn ⟨ltmps_ref15_Entry_2.svs a, lmem_ref15_Entry_2.mem b⟩) (fun r => outLsRun louts_ref15_Entry_2 r K) := by kernel_rfl
noncomputable def D_ref15_Entry_2 : LCon := ⟨ltmps_ref15_Entry_2, lmem_ref15_Entry_2, louts_ref15_Entry_2, L_ref15_Entry_2⟩
theorem kl_ref15_Entry_2 : Known Try.prog fd_ref15_Entry [] [] := known_of mixT (by kernel_rfl) trivial trivial
theorem okl_ref15_Entry_2 : LConOK Try.prog (fd_ref15_Entry.loop 2) D_ref15_Entry_2 := lcon_of kl_ref15_Entry_2 (byRef := br_ref15_Entry) (lan := an_ref15_Entry 2) (id := 2) (by kernel_rfl) ltmps_ref15_Entry_2 lmem_ref15_Entry_2 louts_ref15_Entry_2 (fun a b kn kr => ltree_ref15_Entry_2 a.1 a.2.1 b.1.1 b.1.2.1 b.1.2.2.1 b.2.1.1 b.2.1.2.1 b.2.1.2.2.1 kn kr) (fun a b => hl_ref15_Entry_2 a.1 a.2.1 b.1.1 b.1.2.1 b.1.2.2.1 b.2.1.1 b.2.1.2.1 b.2.1.2.2.1 _ _) (fun a b kn kr => nl_ref15_Entry_2 a.1 a.2.1 b.1.1 b.1.2.1 b.1.2.2.1 b.2.1.1 b.2.1.2.1 b.2.1.2.2.1 kn kr)
theorem h_ref15_Entry (L_ref15_Entry_2 : LT_ref15_Entry_2 → LM_ref15_Entry_2 → Option LO_ref15_Entry_2) (x1 : Int) (x2 : Int) (x3 : List (Int × Int × ByteArray)) (x4 : Int) {α : Type} (K : SV → Mem → Option α) : callBody (table [] [(2, ⟨ltmps_ref15_Entry_2, lmem_ref15_Entry_2, louts_ref15_Entry_2, L_ref15_Entry_2⟩)]) br_ref15_Entry true fd_ref15_Entry (args_ref15_Entry.svs ((x1, (x2, (x3, ()))), (x4, ()))) (mem_ref15_Entry.mem ()) K = tree_ref15_Entry L_ref15_Entry_2 x1 x2 x3 x4 (fun r => outsRun outs_ref15_Entry r K) := by kernel_rfl
noncomputable def C_ref15_Entry : Con := ⟨args_ref15_Entry, mem_ref15_Entry, outs_ref15_Entry, F_ref15_Entry⟩
theorem k_ref15_Entry : Known Try.prog fd_ref15_Entry [] [(2, D_ref15_Entry_2)] := known_of mixT (by kernel_rfl) trivial ⟨okl_ref15_Entry_2, trivial⟩
theorem fn_ref15_Entry : FnOK Try.prog an_ref15_Entry 27 Try.f27 fd_ref15_Entry := fnOK (by kernel_rfl) (by kernel_rfl) (by kernel_rfl)
theorem ok_ref15_Entry : ConOK Try.prog 27 C_ref15_Entry := con_of k_ref15_Entry (byRef := br_ref15_Entry) fn_ref15_Entry true args_ref15_Entry mem_ref15_Entry outs_ref15_Entry (fun a b K => tree_ref15_Entry L_ref15_Entry_2 a.1.1 a.1.2.1 a.1.2.2.1 a.2.1 K) (fun a b => h_ref15_Entry L_ref15_Entry_2 a.1.1 a.1.2.1 a.1.2.2.1 a.2.1 _) (fun a b K => n_ref15_Entry L_ref15_Entry_2 a.1.1 a.1.2.1 a.1.2.2.1 a.2.1 K)

def an_ref15_Term : Nat → LAnn := fun n => (find n []).getD ⟨0, [], [], [], []⟩
noncomputable def fd_ref15_Term : FD := fdOf Try.prog an_ref15_Term Try.f26
def br_ref15_Term : FuncId → Bool := fun f => ([] : List Nat).contains f
theorem h_ref15_Term (F_ref15_Entry : A_ref15_Entry → M_ref15_Entry → Option O_ref15_Entry) (x1 : Int) (x2 : Int) (x3 : List (Int × Int × ByteArray)) (x4 : Int) {α : Type} (K : SV → Mem → Option α) : callBody (table [(27, ⟨args_ref15_Entry, mem_ref15_Entry, outs_ref15_Entry, F_ref15_Entry⟩)] []) br_ref15_Term true fd_ref15_Term (args_ref15_Term.svs ((x1, (x2, (x3, ()))), (x4, ()))) (mem_ref15_Term.mem ()) K = tree_ref15_Term F_ref15_Entry x1 x2 x3 x4 (fun r => outsRun outs_ref15_Term r K) := by kernel_rfl
noncomputable def C_ref15_Term : Con := ⟨args_ref15_Term, mem_ref15_Term, outs_ref15_Term, F_ref15_Term⟩
theorem k_ref15_Term : Known Try.prog fd_ref15_Term [(27, C_ref15_Entry)] [] := known_of mixT (by kernel_rfl) ⟨ok_ref15_Entry, trivial⟩ trivial
theorem fn_ref15_Term : FnOK Try.prog an_ref15_Term 26 Try.f26 fd_ref15_Term := fnOK (by kernel_rfl) (by kernel_rfl) (by kernel_rfl)
theorem ok_ref15_Term : ConOK Try.prog 26 C_ref15_Term := con_of k_ref15_Term (byRef := br_ref15_Term) fn_ref15_Term true args_ref15_Term mem_ref15_Term outs_ref15_Term (fun a b K => tree_ref15_Term F_ref15_Entry a.1.1 a.1.2.1 a.1.2.2.1 a.2.1 K) (fun a b => h_ref15_Term F_ref15_Entry a.1.1 a.1.2.1 a.1.2.2.1 a.2.1 _) (fun a b K => n_ref15_Term F_ref15_Entry a.1.1 a.1.2.1 a.1.2.2.1 a.2.1 K)

def an_ref15_Last : Nat → LAnn := fun n => (find n []).getD ⟨0, [], [], [], []⟩
noncomputable def fd_ref15_Last : FD := fdOf Try.prog an_ref15_Last Try.f31
def br_ref15_Last : FuncId → Bool := fun f => ([] : List Nat).contains f
theorem h_ref15_Last (x1 : Int) (x2 : Int) (x3 : List (Int × Int × ByteArray)) {α : Type} (K : SV → Mem → Option α) : callBody (table [] []) br_ref15_Last true fd_ref15_Last (args_ref15_Last.svs ((x1, (x2, (x3, ()))), ())) (mem_ref15_Last.mem ()) K = tree_ref15_Last x1 x2 x3 (fun r => outsRun outs_ref15_Last r K) := by kernel_rfl
noncomputable def C_ref15_Last : Con := ⟨args_ref15_Last, mem_ref15_Last, outs_ref15_Last, F_ref15_Last⟩
theorem k_ref15_Last : Known Try.prog fd_ref15_Last [] [] := known_of mixT (by kernel_rfl) trivial trivial
theorem fn_ref15_Last : FnOK Try.prog an_ref15_Last 31 Try.f31 fd_ref15_Last := fnOK (by kernel_rfl) (by kernel_rfl) (by kernel_rfl)
theorem ok_ref15_Last : ConOK Try.prog 31 C_ref15_Last := con_of k_ref15_Last (byRef := br_ref15_Last) fn_ref15_Last true args_ref15_Last mem_ref15_Last outs_ref15_Last (fun a b K => tree_ref15_Last a.1.1 a.1.2.1 a.1.2.2.1 K) (fun a b => h_ref15_Last a.1.1 a.1.2.1 a.1.2.2.1 _) (fun a b K => n_ref15_Last a.1.1 a.1.2.1 a.1.2.2.1 K)

def an_ref15_May : Nat → LAnn := fun n => (find n []).getD ⟨0, [], [], [], []⟩
noncomputable def fd_ref15_May : FD := fdOf Try.prog an_ref15_May Try.f17
def br_ref15_May : FuncId → Bool := fun f => ([] : List Nat).contains f
theorem h_ref15_May (x1 : Int) (x2 : Int) (x3 : List (Int × Int × ByteArray)) {α : Type} (K : SV → Mem → Option α) : callBody (table [] []) br_ref15_May true fd_ref15_May (args_ref15_May.svs ((x1, (x2, (x3, ()))), ())) (mem_ref15_May.mem ()) K = tree_ref15_May x1 x2 x3 (fun r => outsRun outs_ref15_May r K) := by kernel_rfl
noncomputable def C_ref15_May : Con := ⟨args_ref15_May, mem_ref15_May, outs_ref15_May, F_ref15_May⟩
theorem k_ref15_May : Known Try.prog fd_ref15_May [] [] := known_of mixT (by kernel_rfl) trivial trivial
theorem fn_ref15_May : FnOK Try.prog an_ref15_May 17 Try.f17 fd_ref15_May := fnOK (by kernel_rfl) (by kernel_rfl) (by kernel_rfl)
theorem ok_ref15_May : ConOK Try.prog 17 C_ref15_May := con_of k_ref15_May (byRef := br_ref15_May) fn_ref15_May true args_ref15_May mem_ref15_May outs_ref15_May (fun a b K => tree_ref15_May a.1.1 a.1.2.1 a.1.2.2.1 K) (fun a b => h_ref15_May a.1.1 a.1.2.1 a.1.2.2.1 _) (fun a b K => n_ref15_May a.1.1 a.1.2.1 a.1.2.2.1 K)

def an_ref15_Entries : Nat → LAnn := fun n => (find n [(4, ⟨4, [0, 1, 5], [], [4, 5, 11, 12, 13, 14, 15, 16, 17, 18, 19, 20, 21, 22, 23, 24, 25], [4]⟩)]).getD ⟨0, [], [], [], []⟩
noncomputable def fd_ref15_Entries : FD := fdOf Try.prog an_ref15_Entries Try.f32
def br_ref15_Entries : FuncId → Bool := fun f => ([] : List Nat).contains f
theorem hl_ref15_Entries_4 (x1 : List (Int × Int × ByteArray)) (x2 : List (Int × Int × ByteArray)) (x3 : Int) {α : Type} (kn : St → Option α) (K : Out → St → Option α) : round (table [] []) br_ref15_Entries (an_ref15_Entries 4) (fd_ref15_Entries.loop 4) kn ⟨ltmps_ref15_Entries_4.svs (x1, (x2, (x3, ()))), lmem_ref15_Entries_4.mem ()⟩ K = ltree_ref15_Entries_4 x1 x2 x3 (fun a b => kn ⟨ltmps_ref15_Entries_4.svs a, lmem_ref15_Entries_4.mem b⟩) (fun r => outLsRun louts_ref15_Entries_4 r K) := by kernel_rfl
noncomputable def D_ref15_Entries_4 : LCon := ⟨ltmps_ref15_Entries_4, lmem_ref15_Entries_4, louts_ref15_Entries_4, L_ref15_Entries_4⟩
theorem kl_ref15_Entries_4 : Known Try.prog fd_ref15_Entries [] [] := known_of mixT (by kernel_rfl) trivial trivial
theorem okl_ref15_Entries_4 : LConOK Try.prog (fd_ref15_Entries.loop 4) D_ref15_Entries_4 := lcon_of kl_ref15_Entries_4 (byRef := br_ref15_Entries) (lan := an_ref15_Entries 4) (id := 4) (by kernel_rfl) ltmps_ref15_Entries_4 lmem_ref15_Entries_4 louts_ref15_Entries_4 (fun a b kn kr => ltree_ref15_Entries_4 a.1 a.2.1 a.2.2.1 kn kr) (fun a b => hl_ref15_Entries_4 a.1 a.2.1 a.2.2.1 _ _) (fun a b kn kr => nl_ref15_Entries_4 a.1 a.2.1 a.2.2.1 kn kr)
theorem h_ref15_Entries (L_ref15_Entries_4 : LT_ref15_Entries_4 → LM_ref15_Entries_4 → Option LO_ref15_Entries_4) (x1 : List (Int × Int × ByteArray)) (x2 : List (Int × Int × ByteArray)) {α : Type} (K : SV → Mem → Option α) : callBody (table [] [(4, ⟨ltmps_ref15_Entries_4, lmem_ref15_Entries_4, louts_ref15_Entries_4, L_ref15_Entries_4⟩)]) br_ref15_Entries true fd_ref15_Entries (args_ref15_Entries.svs (x1, (x2, ()))) (mem_ref15_Entries.mem ()) K = tree_ref15_Entries L_ref15_Entries_4 x1 x2 (fun r => outsRun outs_ref15_Entries r K) := by kernel_rfl
noncomputable def C_ref15_Entries : Con := ⟨args_ref15_Entries, mem_ref15_Entries, outs_ref15_Entries, F_ref15_Entries⟩
theorem k_ref15_Entries : Known Try.prog fd_ref15_Entries [] [(4, D_ref15_Entries_4)] := known_of mixT (by kernel_rfl) trivial ⟨okl_ref15_Entries_4, trivial⟩
theorem fn_ref15_Entries : FnOK Try.prog an_ref15_Entries 32 Try.f32 fd_ref15_Entries := fnOK (by kernel_rfl) (by kernel_rfl) (by kernel_rfl)
theorem ok_ref15_Entries : ConOK Try.prog 32 C_ref15_Entries := con_of k_ref15_Entries (byRef := br_ref15_Entries) fn_ref15_Entries true args_ref15_Entries mem_ref15_Entries outs_ref15_Entries (fun a b K => tree_ref15_Entries L_ref15_Entries_4 a.1 a.2.1 K) (fun a b => h_ref15_Entries L_ref15_Entries_4 a.1 a.2.1 _) (fun a b K => n_ref15_Entries L_ref15_Entries_4 a.1 a.2.1 K)

def an_ref15_Is : Nat → LAnn := fun n => (find n []).getD ⟨0, [], [], [], []⟩
noncomputable def fd_ref15_Is : FD := fdOf Try.prog an_ref15_Is Try.f20
def br_ref15_Is : FuncId → Bool := fun f => ([] : List Nat).contains f
theorem h_ref15_Is (F_ref15_Entries : A_ref15_Entries → M_ref15_Entries → Option O_ref15_Entries) (x1 : Int) (x2 : Int) (x3 : List (Int × Int × ByteArray)) (x4 : Int) (x5 : Int) (x6 : List (Int × Int × ByteArray)) {α : Type} (K : SV → Mem → Option α) : callBody (table [(32, ⟨args_ref15_Entries, mem_ref15_Entries, outs_ref15_Entries, F_ref15_Entries⟩)] []) br_ref15_Is true fd_ref15_Is (args_ref15_Is.svs ((x1, (x2, (x3, ()))), ((x4, (x5, (x6, ()))), ()))) (mem_ref15_Is.mem ()) K = tree_ref15_Is F_ref15_Entries x1 x2 x3 x4 x5 x6 (fun r => outsRun outs_ref15_Is r K) := by kernel_rfl
noncomputable def C_ref15_Is : Con := ⟨args_ref15_Is, mem_ref15_Is, outs_ref15_Is, F_ref15_Is⟩
theorem k_ref15_Is : Known Try.prog fd_ref15_Is [(32, C_ref15_Entries)] [] := known_of mixT (by kernel_rfl) ⟨ok_ref15_Entries, trivial⟩ trivial
theorem fn_ref15_Is : FnOK Try.prog an_ref15_Is 20 Try.f20 fd_ref15_Is := fnOK (by kernel_rfl) (by kernel_rfl) (by kernel_rfl)
theorem ok_ref15_Is : ConOK Try.prog 20 C_ref15_Is := con_of k_ref15_Is (byRef := br_ref15_Is) fn_ref15_Is true args_ref15_Is mem_ref15_Is outs_ref15_Is (fun a b K => tree_ref15_Is F_ref15_Entries a.1.1 a.1.2.1 a.1.2.2.1 a.2.1.1 a.2.1.2.1 a.2.1.2.2.1 K) (fun a b => h_ref15_Is F_ref15_Entries a.1.1 a.1.2.1 a.1.2.2.1 a.2.1.1 a.2.1.2.1 a.2.1.2.2.1 _) (fun a b K => n_ref15_Is F_ref15_Entries a.1.1 a.1.2.1 a.1.2.2.1 a.2.1.1 a.2.1.2.1 a.2.1.2.2.1 K)

def an_ref15_Newer : Nat → LAnn := fun n => (find n []).getD ⟨0, [], [], [], []⟩
noncomputable def fd_ref15_Newer : FD := fdOf Try.prog an_ref15_Newer Try.f35
def br_ref15_Newer : FuncId → Bool := fun f => ([] : List Nat).contains f
theorem h_ref15_Newer (F_ref15_Last : A_ref15_Last → M_ref15_Last → Option O_ref15_Last) (F_ref15_Term : A_ref15_Term → M_ref15_Term → Option O_ref15_Term) (x1 : Int) (x2 : Int) (x3 : List (Int × Int × ByteArray)) (x4 : Int) (x5 : Int) {α : Type} (K : SV → Mem → Option α) : callBody (table [(31, ⟨args_ref15_Last, mem_ref15_Last, outs_ref15_Last, F_ref15_Last⟩), (26, ⟨args_ref15_Term, mem_ref15_Term, outs_ref15_Term, F_ref15_Term⟩)] []) br_ref15_Newer true fd_ref15_Newer (args_ref15_Newer.svs ((x1, (x2, (x3, ()))), (x4, (x5, ())))) (mem_ref15_Newer.mem ()) K = tree_ref15_Newer F_ref15_Last F_ref15_Term x1 x2 x3 x4 x5 (fun r => outsRun outs_ref15_Newer r K) := by kernel_rfl
noncomputable def C_ref15_Newer : Con := ⟨args_ref15_Newer, mem_ref15_Newer, outs_ref15_Newer, F_ref15_Newer⟩
theorem k_ref15_Newer : Known Try.prog fd_ref15_Newer [(31, C_ref15_Last), (26, C_ref15_Term)] [] := known_of mixT (by kernel_rfl) ⟨ok_ref15_Last, ok_ref15_Term, trivial⟩ trivial
theorem fn_ref15_Newer : FnOK Try.prog an_ref15_Newer 35 Try.f35 fd_ref15_Newer := fnOK (by kernel_rfl) (by kernel_rfl) (by kernel_rfl)
theorem ok_ref15_Newer : ConOK Try.prog 35 C_ref15_Newer := con_of k_ref15_Newer (byRef := br_ref15_Newer) fn_ref15_Newer true args_ref15_Newer mem_ref15_Newer outs_ref15_Newer (fun a b K => tree_ref15_Newer F_ref15_Last F_ref15_Term a.1.1 a.1.2.1 a.1.2.2.1 a.2.1 a.2.2.1 K) (fun a b => h_ref15_Newer F_ref15_Last F_ref15_Term a.1.1 a.1.2.1 a.1.2.2.1 a.2.1 a.2.2.1 _) (fun a b K => n_ref15_Newer F_ref15_Last F_ref15_Term a.1.1 a.1.2.1 a.1.2.2.1 a.2.1 a.2.2.1 K)

def an_rlog_cover : Nat → LAnn := fun n => (find n []).getD ⟨0, [], [], [], []⟩
noncomputable def fd_rlog_cover : FD := fdOf Try.prog an_rlog_cover Try.f58
def br_rlog_cover : FuncId → Bool := fun f => ([] : List Nat).contains f
theorem h_rlog_cover (x1 : Int) (x2 : Int) (x3 : List (Int × Int × ByteArray)) (x4 : Int) (x5 : Int) (x6 : List (Int × Int × ByteArray)) {α : Type} (K : SV → Mem → Option α) : callBody (table [] []) br_rlog_cover true fd_rlog_cover (args_rlog_cover.svs ((x1, (x2, (x3, ()))), (x4, (x5, (x6, ()))))) (mem_rlog_cover.mem ()) K = tree_rlog_cover x1 x2 x3 x4 x5 x6 (fun r => outsRun outs_rlog_cover r K) := by kernel_rfl
noncomputable def C_rlog_cover : Con := ⟨args_rlog_cover, mem_rlog_cover, outs_rlog_cover, F_rlog_cover⟩
theorem k_rlog_cover : Known Try.prog fd_rlog_cover [] [] := known_of mixT (by kernel_rfl) trivial trivial
theorem fn_rlog_cover : FnOK Try.prog an_rlog_cover 58 Try.f58 fd_rlog_cover := fnOK (by kernel_rfl) (by kernel_rfl) (by kernel_rfl)
theorem ok_rlog_cover : ConOK Try.prog 58 C_rlog_cover := con_of k_rlog_cover (byRef := br_rlog_cover) fn_rlog_cover true args_rlog_cover mem_rlog_cover outs_rlog_cover (fun a b K => tree_rlog_cover a.1.1 a.1.2.1 a.1.2.2.1 a.2.1 a.2.2.1 a.2.2.2.1 K) (fun a b => h_rlog_cover a.1.1 a.1.2.1 a.1.2.2.1 a.2.1 a.2.2.1 a.2.2.2.1 _) (fun a b K => n_rlog_cover a.1.1 a.1.2.1 a.1.2.2.1 a.2.1 a.2.2.1 a.2.2.2.1 K)

def an_slices_Grow_api_Entry : Nat → LAnn := fun n => (find n []).getD ⟨0, [], [], [], []⟩
noncomputable def fd_slices_Grow_api_Entry : FD := fdOf Try.prog an_slices_Grow_api_Entry Try.f69
def br_slices_Grow_api_Entry : FuncId → Bool := fun f => ([] : List Nat).contains f
theorem h_slices_Grow_api_Entry (x1 : Int) {α : Type} (K : SV → Mem → Option α) : callBody (table [] []) br_slices_Grow_api_Entry false fd_slices_Grow_api_Entry (args_slices_Grow_api_Entry.svs (x1, ())) (mem_slices_Grow_api_Entry.mem ()) K = tree_slices_Grow_api_Entry x1 (fun r => outsRun outs_slices_Grow_api_Entry r K) := by kernel_rfl
noncomputable def C_slices_Grow_api_Entry : Con := ⟨args_slices_Grow_api_Entry, mem_slices_Grow_api_Entry, outs_slices_Grow_api_Entry, F_slices_Grow_api_Entry⟩
theorem k_slices_Grow_api_Entry : Known Try.prog fd_slices_Grow_api_Entry [] [] := known_of mixT (by kernel_rfl) trivial trivial
theorem fn_slices_Grow_api_Entry : FnOK Try.prog an_slices_Grow_api_Entry 69 Try.f69 fd_slices_Grow_api_Entry := fnOK (by kernel_rfl) (by kernel_rfl) (by kernel_rfl)
theorem ok_slices_Grow_api_Entry : ConOK Try.prog 69 C_slices_Grow_api_Entry := con_of k_slices_Grow_api_Entry (byRef := br_slices_Grow_api_Entry) fn_slices_Grow_api_Entry false args_slices_Grow_api_Entry mem_slices_Grow_api_Entry outs_slices_Grow_api_Entry (fun a b K => tree_slices_Grow_api_Entry a.1 K) (fun a b => h_slices_Grow_api_Entry a.1 _) (fun a b K => n_slices_Grow_api_Entry a.1 K)

def an_slices_Concat_api_Entry : Nat → LAnn := fun n => (find n [(11, ⟨11, [6, 25, 26, 27], [(.slot 6, 506, 37, (.cons (.int .u64) (.cons (.int .i64) (.cons .str .nil))))], [6, 8, 27, 28, 29, 30, 31, 32, 33, 34], [6]⟩), (3, ⟨3, [0, 3, 9, 10, 11], [], [3, 5, 11, 12, 13, 14, 15, 16, 17, 18, 19, 20, 21, 22], [0, 3]⟩)]).getD ⟨0, [], [], [], []⟩
noncomputable def fd_slices_Concat_api_Entry : FD := fdOf Try.prog an_slices_Concat_api_Entry Try.f59
def br_slices_Concat_api_Entry : FuncId → Bool := fun f => ([] : List Nat).contains f
theorem hl_slices_Concat_api_Entry_3 (F_slices_Grow_api_Entry : A_slices_Grow_api_Entry → M_slices_Grow_api_Entry → Option O_slices_Grow_api_Entry) (x1 : List ((List (Int × Int × ByteArray)))) (x2 : Int) (x3 : List ((List (Int × Int × ByteArray)))) (x4 : Int) (x5 : Int) {α : Type} (kn : St → Option α) (K : Out → St → Option α) : round (table [(69, ⟨args_slices_Grow_api_Entry, mem_slices_Grow_api_Entry, outs_slices_Grow_api_Entry, F_slices_Grow_api_Entry⟩)] []) br_slices_Concat_api_Entry (an_slices_Concat_api_Entry 3) (fd_slices_Concat_api_Entry.loop 3) kn ⟨ltmps_slices_Concat_api_Entry_3.svs (x1, (x2, (x3, (x4, (x5, ()))))), lmem_slices_Concat_api_Entry_3.mem ()⟩ K = ltree_slices_Concat_api_Entry_3 x1 x2 x3 x4 x5 (fun a b => kn ⟨ltmps_slices_Concat_api_Entry_3.svs a, lmem_slices_Concat_api_Entry_3.mem b⟩) (fun r => outLsRun louts_slices_Concat_api_Entry_3 r K) := by kernel_rfl
noncomputable def D_slices_Concat_api_Entry_3 : LCon := ⟨ltmps_slices_Concat_api_Entry_3, lmem_slices_Concat_api_Entry_3, louts_slices_Concat_api_Entry_3, L_slices_Concat_api_Entry_3⟩
theorem kl_slices_Concat_api_Entry_3 : Known Try.prog fd_slices_Concat_api_Entry [(69, C_slices_Grow_api_Entry)] [] := known_of mixT (by kernel_rfl) ⟨ok_slices_Grow_api_Entry, trivial⟩ trivial
theorem okl_slices_Concat_api_Entry_3 : LConOK Try.prog (fd_slices_Concat_api_Entry.loop 3) D_slices_Concat_api_Entry_3 := lcon_of kl_slices_Concat_api_Entry_3 (byRef := br_slices_Concat_api_Entry) (lan := an_slices_Concat_api_Entry 3) (id := 3) (by kernel_rfl) ltmps_slices_Concat_api_Entry_3 lmem_slices_Concat_api_Entry_3 louts_slices_Concat_api_Entry_3 (fun a b kn kr => ltree_slices_Concat_api_Entry_3 a.1 a.2.1 a.2.2.1 a.2.2.2.1 a.2.2.2.2.1 kn kr) (fun a b => hl_slices_Concat_api_Entry_3 F_slices_Grow_api_Entry a.1 a.2.1 a.2.2.1 a.2.2.2.1 a.2.2.2.2.1 _ _) (fun a b kn kr => nl_slices_Concat_api_Entry_3 a.1 a.2.1 a.2.2.1 a.2.2.2.1 a.2.2.2.2.1 kn kr)
theorem hl_slices_Concat_api_Entry_11 (F_slices_Grow_api_Entry : A_slices_Grow_api_Entry → M_slices_Grow_api_Entry → Option O_slices_Grow_api_Entry) (L_slices_Concat_api_Entry_3 : LT_slices_Concat_api_Entry_3 → LM_slices_Concat_api_Entry_3 → Option LO_slices_Concat_api_Entry_3) (x1 : List ((List (Int × Int × ByteArray)))) (x2 : Int) (x3 : Int) (x4 : List (Int × Int × ByteArray)) {α : Type} (kn : St → Option α) (K : Out → St → Option α) : round (table [(69, ⟨args_slices_Grow_api_Entry, mem_slices_Grow_api_Entry, outs_slices_Grow_api_Entry, F_slices_Grow_api_Entry⟩)] [(3, ⟨ltmps_slices_Concat_api_Entry_3, lmem_slices_Concat_api_Entry_3, louts_slices_Concat_api_Entry_3, L_slices_Concat_api_Entry_3⟩)]) br_slices_Concat_api_Entry (an_slices_Concat_api_Entry 11) (fd_slices_Concat_api_Entry.loop 11) kn ⟨ltmps_slices_Concat_api_Entry_11.svs (x1, (x2, (x3, ()))), lmem_slices_Concat_api_Entry_11.mem (x4, ())⟩ K = ltree_slices_Concat_api_Entry_11 x1 x2 x3 x4 (fun a b => kn ⟨ltmps_slices_Concat_api_Entry_11.svs a, lmem_slices_Concat_api_Entry_11.mem b⟩) (fun r => outLsRun louts_slices_Concat_api_Entry_11 r K) := by kernel_rfl
noncomputable def D_slices_Concat_api_Entry_11 : LCon := ⟨ltmps_slices_Concat_api_Entry_11, lmem_slices_Concat_api_Entry_11, louts_slices_Concat_api_Entry_11, L_slices_Concat_api_Entry_11⟩
theorem kl_slices_Concat_api_Entry_11 : Known Try.prog fd_slices_Concat_api_Entry [(69, C_slices_Grow_api_Entry)] [(3, D_slices_Concat_api_Entry_3)] := known_of mixT (by kernel_rfl) ⟨ok_slices_Grow_api_Entry, trivial⟩ ⟨okl_slices_Concat_api_Entry_3, trivial⟩
theorem okl_slices_Concat_api_Entry_11 : LConOK Try.prog (fd_slices_Concat_api_Entry.loop 11) D_slices_Concat_api_Entry_11 := lcon_of kl_slices_Concat_api_Entry_11 (byRef := br_slices_Concat_api_Entry) (lan := an_slices_Concat_api_Entry 11) (id := 11) (by kernel_rfl) ltmps_slices_Concat_api_Entry_11 lmem_slices_Concat_api_Entry_11 louts_slices_Concat_api_Entry_11 (fun a b kn kr => ltree_slices_Concat_api_Entry_11 a.1 a.2.1 a.2.2.1 b.1 kn kr) (fun a b => hl_slices_Concat_api_Entry_11 F_slices_Grow_api_Entry L_slices_Concat_api_Entry_3 a.1 a.2.1 a.2.2.1 b.1 _ _) (fun a b kn kr => nl_slices_Concat_api_Entry_11 a.1 a.2.1 a.2.2.1 b.1 kn kr)
theorem h_slices_Concat_api_Entry (F_slices_Grow_api_Entry : A_slices_Grow_api_Entry → M_slices_Grow_api_Entry → Option O_slices_Grow_api_Entry) (L_slices_Concat_api_Entry_3 : LT_slices_Concat_api_Entry_3 → LM_slices_Concat_api_Entry_3 → Option LO_slices_Concat_api_Entry_3) (L_slices_Concat_api_Entry_11 : LT_slices_Concat_api_Entry_11 → LM_slices_Concat_api_Entry_11 → Option LO_slices_Concat_api_Entry_11) (x1 : List ((List (Int × Int × ByteArray)))) {α : Type} (K : SV → Mem → Option α) : callBody (table [(69, ⟨args_slices_Grow_api_Entry, mem_slices_Grow_api_Entry, outs_slices_Grow_api_Entry, F_slices_Grow_api_Entry⟩)] [(3, ⟨ltmps_slices_Concat_api_Entry_3, lmem_slices_Concat_api_Entry_3, louts_slices_Concat_api_Entry_3, L_slices_Concat_api_Entry_3⟩), (11, ⟨ltmps_slices_Concat_api_Entry_11, lmem_slices_Concat_api_Entry_11, louts_slices_Concat_api_Entry_11, L_slices_Concat_api_Entry_11⟩)]) br_slices_Concat_api_Entry true fd_slices_Concat_api_Entry (args_slices_Concat_api_Entry.svs (x1, ())) (mem_slices_Concat_api_Entry.mem ()) K = tree_slices_Concat_api_Entry F_slices_Grow_api_Entry L_slices_Concat_api_Entry_3 L_slices_Concat_api_Entry_11 x1 (fun r => outsRun outs_slices_Concat_api_Entry r K) := by kernel_rfl
noncomputable def C_slices_Concat_api_Entry : Con := ⟨args_slices_Concat_api_Entry, mem_slices_Concat_api_Entry, outs_slices_Concat_api_Entry, F_slices_Concat_api_Entry⟩
theorem k_slices_Concat_api_Entry : Known Try.prog fd_slices_Concat_api_Entry [(69, C_slices_Grow_api_Entry)] [(3, D_slices_Concat_api_Entry_3), (11, D_slices_Concat_api_Entry_11)] := known_of mixT (by kernel_rfl) ⟨ok_slices_Grow_api_Entry, trivial⟩ ⟨okl_slices_Concat_api_Entry_3, okl_slices_Concat_api_Entry_11, trivial⟩
theorem fn_slices_Concat_api_Entry : FnOK Try.prog an_slices_Concat_api_Entry 59 Try.f59 fd_slices_Concat_api_Entry := fnOK (by kernel_rfl) (by kernel_rfl) (by kernel_rfl)
theorem ok_slices_Concat_api_Entry : ConOK Try.prog 59 C_slices_Concat_api_Entry := con_of k_slices_Concat_api_Entry (byRef := br_slices_Concat_api_Entry) fn_slices_Concat_api_Entry true args_slices_Concat_api_Entry mem_slices_Concat_api_Entry outs_slices_Concat_api_Entry (fun a b K => tree_slices_Concat_api_Entry F_slices_Grow_api_Entry L_slices_Concat_api_Entry_3 L_slices_Concat_api_Entry_11 a.1 K) (fun a b => h_slices_Concat_api_Entry F_slices_Grow_api_Entry L_slices_Concat_api_Entry_3 L_slices_Concat_api_Entry_11 a.1 _) (fun a b K => n_slices_Concat_api_Entry F_slices_Grow_api_Entry L_slices_Concat_api_Entry_3 L_slices_Concat_api_Entry_11 a.1 K)

def an_ref15_Lay : Nat → LAnn := fun n => (find n [(3, ⟨3, [1, 2, 3, 6, 7, 8], [(.cell 1224 2, 507, 37, (.cons (.int .u64) (.cons (.int .i64) (.cons .str .nil))))], [8, 9, 10, 19, 20, 21, 22, 23, 24, 25, 26, 27, 28, 29, 30, 31, 32, 33, 34, 35], [2, 6, 7]⟩)]).getD ⟨0, [], [], [], []⟩
noncomputable def fd_ref15_Lay : FD := fdOf Try.prog an_ref15_Lay Try.f60
def br_ref15_Lay : FuncId → Bool := fun f => ([] : List Nat).contains f
theorem hl_ref15_Lay_3 (F_ref15_Entry : A_ref15_Entry → M_ref15_Entry → Option O_ref15_Entry) (x1 : Int) (x2 : List (Int × Int × ByteArray)) (x3 : Int) (x4 : List (Int × Int × ByteArray)) (x5 : Int) (x6 : Int) (x7 : List (Int × Int × ByteArray)) (x8 : Int) (x9 : Int) (x10 : Int) (x11 : Int) {α : Type} (kn : St → Option α) (K : Out → St → Option α) : round (table [(27, ⟨args_ref15_Entry, mem_ref15_Entry, outs_ref15_Entry, F_ref15_Entry⟩)] []) br_ref15_Lay (an_ref15_Lay 3) (fd_ref15_Lay.loop 3) kn ⟨ltmps_ref15_Lay_3.svs (x1, (x2, (x3, ()))), lmem_ref15_Lay_3.mem (x4, ((x5, (x6, (x7, ()))), ((x8, (x9, ())), ((x10, (x11, ())), ()))))⟩ K = ltree_ref15_Lay_3 F_ref15_Entry x1 x2 x3 x4 x5 x6 x7 x8 x9 x10 x11 (fun a b => kn ⟨ltmps_ref15_Lay_3.svs a, lmem_ref15_Lay_3.mem b⟩) (fun r => outLsRun louts_ref15_Lay_3 r K) := by kernel_rfl
noncomputable def D_ref15_Lay_3 : LCon := ⟨ltmps_ref15_Lay_3, lmem_ref15_Lay_3, louts_ref15_Lay_3, L_ref15_Lay_3⟩
theorem kl_ref15_Lay_3 : Known Try.prog fd_ref15_Lay [(27, C_ref15_Entry)] [] := known_of mixT (by kernel_rfl) ⟨ok_ref15_Entry, trivial⟩ trivial
theorem okl_ref15_Lay_3 : LConOK Try.prog (fd_ref15_Lay.loop 3) D_ref15_Lay_3 := lcon_of kl_ref15_Lay_3 (byRef := br_ref15_Lay) (lan := an_ref15_Lay 3) (id := 3) (by kernel_rfl) ltmps_ref15_Lay_3 lmem_ref15_Lay_3 louts_ref15_Lay_3 (fun a b kn kr => ltree_ref15_Lay_3 F_ref15_Entry a.1 a.2.1 a.2.2.1 b.1 b.2.1.1 b.2.1.2.1 b.2.1.2.2.1 b.2.2.1.1 b.2.2.1.2.1 b.2.2.2.1.1 b.2.2.2.1.2.1 kn kr) (fun a b => hl_ref15_Lay_3 F_ref15_Entry a.1 a.2.1 a.2.2.1 b.1 b.2.1.1 b.2.1.2.1 b.2.1.2.2.1 b.2.2.1.1 b.2.2.1.2.1 b.2.2.2.1.1 b.2.2.2.1.2.1 _ _) (fun a b kn kr => nl_ref15_Lay_3 F_ref15_Entry a.1 a.2.1 a.2.2.1 b.1 b.2.1.1 b.2.1.2.1 b.2.1.2.2.1 b.2.2.1.1 b.2.2.1.2.1 b.2.2.2.1.1 b.2.2.2.1.2.1 kn kr)
theorem h_ref15_Lay (F_ref15_Entry : A_ref15_Entry → M_ref15_Entry → Option O_ref15_Entry) (L_ref15_Lay_3 : LT_ref15_Lay_3 → LM_ref15_Lay_3 → Option LO_ref15_Lay_3) (x1 : Int) (x2 : Int) (x3 : List (Int × Int × ByteArray)) (x4 : Int) (x5 : List (Int × Int × ByteArray)) {α : Type} (K : SV → Mem → Option α) : callBody (table [(27, ⟨args_ref15_Entry, mem_ref15_Entry, outs_ref15_Entry, F_ref15_Entry⟩)] [(3, ⟨ltmps_ref15_Lay_3, lmem_ref15_Lay_3, louts_ref15_Lay_3, L_ref15_Lay_3⟩)]) br_ref15_Lay true fd_ref15_Lay (args_ref15_Lay.svs ((x1, (x2, (x3, ()))), (x4, (x5, ())))) (mem_ref15_Lay.mem ()) K = tree_ref15_Lay L_ref15_Lay_3 x1 x2 x3 x4 x5 (fun r => outsRun outs_ref15_Lay r K) := by kernel_rfl
noncomputable def C_ref15_Lay : Con := ⟨args_ref15_Lay, mem_ref15_Lay, outs_ref15_Lay, F_ref15_Lay⟩
theorem k_ref15_Lay : Known Try.prog fd_ref15_Lay [(27, C_ref15_Entry)] [(3, D_ref15_Lay_3)] := known_of mixT (by kernel_rfl) ⟨ok_ref15_Entry, trivial⟩ ⟨okl_ref15_Lay_3, trivial⟩
theorem fn_ref15_Lay : FnOK Try.prog an_ref15_Lay 60 Try.f60 fd_ref15_Lay := fnOK (by kernel_rfl) (by kernel_rfl) (by kernel_rfl)
theorem ok_ref15_Lay : ConOK Try.prog 60 C_ref15_Lay := con_of k_ref15_Lay (byRef := br_ref15_Lay) fn_ref15_Lay true args_ref15_Lay mem_ref15_Lay outs_ref15_Lay (fun a b K => tree_ref15_Lay L_ref15_Lay_3 a.1.1 a.1.2.1 a.1.2.2.1 a.2.1 a.2.2.1 K) (fun a b => h_ref15_Lay F_ref15_Entry L_ref15_Lay_3 a.1.1 a.1.2.1 a.1.2.2.1 a.2.1 a.2.2.1 _) (fun a b K => n_ref15_Lay L_ref15_Lay_3 a.1.1 a.1.2.1 a.1.2.2.1 a.2.1 a.2.2.1 K)

end Go.Proofs.Ytlmiaagcnhgfmaa.S2
