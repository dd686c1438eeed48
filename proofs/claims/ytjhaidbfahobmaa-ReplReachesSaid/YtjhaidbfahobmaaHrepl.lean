/- The program's functions come to their plain forms, by program. -/
import Derived.Test.YtjhaidbfahobmaaGrepl
import Derived.Test.YtjhaidbfahobmaaHvote
set_option maxRecDepth 100000
set_option maxHeartbeats 0
set_option linter.unusedVariables false
set_option linter.unusedSimpArgs false
namespace Go.Proofs.Ytjhaidbfahobmaa.S2
open Go
def an_repl_Back : Nat → LAnn := fun n => (find n []).getD ⟨0, [], [], [], []⟩
noncomputable def fd_repl_Back : FD := fdOf Try.prog an_repl_Back Try.f19
def br_repl_Back : FuncId → CC := fun f => ⟨([] : List Nat).contains f, (find f []).getD [], (find f []).getD []⟩
def rc_repl_Back : RC := ⟨true, [], []⟩
theorem h_repl_Back (x1 : Int) (x2 : Int) {α : Type} (K : SV → Mem → Option α) : callBody (table [] []) br_repl_Back rc_repl_Back fd_repl_Back (args_repl_Back.svs (x1, (x2, ()))) (mem_repl_Back.mem ()) K = tree_repl_Back x1 x2 (fun r => outsRun outs_repl_Back r K) := by kernel_rfl
noncomputable def C_repl_Back : Con := ⟨args_repl_Back, mem_repl_Back, outs_repl_Back, F_repl_Back⟩
theorem k_repl_Back : Known Try.prog fd_repl_Back [] [] := known_of mixT (by kernel_rfl) trivial trivial
theorem fn_repl_Back : FnOK Try.prog an_repl_Back 19 Try.f19 fd_repl_Back := fnOK (by kernel_rfl) (by kernel_rfl) (by kernel_rfl)
theorem ok_repl_Back : ConOK Try.prog 19 C_repl_Back := con_of k_repl_Back (byRef := br_repl_Back) fn_repl_Back rc_repl_Back args_repl_Back mem_repl_Back outs_repl_Back (fun a b K => tree_repl_Back a.1 a.2.1 K) (fun a b => h_repl_Back a.1 a.2.1 _) (fun a b K => n_repl_Back a.1 a.2.1 K)

def an_repl_have : Nat → LAnn := fun n => (find n [(3, ⟨3, [1, 5, 8, 9, 10], [(.slot 5, 505, 22, (.cons (.int .u64) .nil))], [5, 7, 10, 11, 12, 13, 14, 15, 16, 17, 18, 19, 20, 21, 22, 23], [5]⟩)]).getD ⟨0, [], [], [], []⟩
noncomputable def fd_repl_have : FD := fdOf Try.prog an_repl_have Try.f42
def br_repl_have : FuncId → CC := fun f => ⟨([] : List Nat).contains f, (find f []).getD [], (find f []).getD []⟩
def rc_repl_have : RC := ⟨true, [], []⟩
theorem hl_repl_have_3 (x1 : Int) (x2 : List (Int × Int × Int)) (x3 : Int) (x4 : Int) (x5 : List Int) {α : Type} (kn : St → Option α) (K : Out → St → Option α) : round (table [] []) br_repl_have (an_repl_have 3) (fd_repl_have.loop 3) kn ⟨ltmps_repl_have_3.svs (x1, (x2, (x3, (x4, ())))), lmem_repl_have_3.mem (x5, ())⟩ K = ltree_repl_have_3 x1 x2 x3 x4 x5 (fun a b => kn ⟨ltmps_repl_have_3.svs a, lmem_repl_have_3.mem b⟩) (fun r => outLsRun louts_repl_have_3 r K) := by kernel_rfl
noncomputable def D_repl_have_3 : LCon := ⟨ltmps_repl_have_3, lmem_repl_have_3, louts_repl_have_3, L_repl_have_3⟩
theorem kl_repl_have_3 : Known Try.prog fd_repl_have [] [] := known_of mixT (by kernel_rfl) trivial trivial
theorem okl_repl_have_3 : LConOK Try.prog (fd_repl_have.loop 3) D_repl_have_3 := lcon_of kl_repl_have_3 (byRef := br_repl_have) (lan := an_repl_have 3) (id := 3) (by kernel_rfl) ltmps_repl_have_3 lmem_repl_have_3 louts_repl_have_3 (fun a b kn kr => ltree_repl_have_3 a.1 a.2.1 a.2.2.1 a.2.2.2.1 b.1 kn kr) (fun a b => hl_repl_have_3 a.1 a.2.1 a.2.2.1 a.2.2.2.1 b.1 _ _) (fun a b kn kr => nl_repl_have_3 a.1 a.2.1 a.2.2.1 a.2.2.2.1 b.1 kn kr)
theorem h_repl_have (L_repl_have_3 : LT_repl_have_3 → LM_repl_have_3 → Option LO_repl_have_3) (x1 : List (Int × Int × Int)) (x2 : Int) {α : Type} (K : SV → Mem → Option α) : callBody (table [] [(3, ⟨ltmps_repl_have_3, lmem_repl_have_3, louts_repl_have_3, L_repl_have_3⟩)]) br_repl_have rc_repl_have fd_repl_have (args_repl_have.svs (x1, (x2, ()))) (mem_repl_have.mem ()) K = tree_repl_have L_repl_have_3 x1 x2 (fun r => outsRun outs_repl_have r K) := by kernel_rfl
noncomputable def C_repl_have : Con := ⟨args_repl_have, mem_repl_have, outs_repl_have, F_repl_have⟩
theorem k_repl_have : Known Try.prog fd_repl_have [] [(3, D_repl_have_3)] := known_of mixT (by kernel_rfl) trivial ⟨okl_repl_have_3, trivial⟩
theorem fn_repl_have : FnOK Try.prog an_repl_have 42 Try.f42 fd_repl_have := fnOK (by kernel_rfl) (by kernel_rfl) (by kernel_rfl)
theorem ok_repl_have : ConOK Try.prog 42 C_repl_have := con_of k_repl_have (byRef := br_repl_have) fn_repl_have rc_repl_have args_repl_have mem_repl_have outs_repl_have (fun a b K => tree_repl_have L_repl_have_3 a.1 a.2.1 K) (fun a b => h_repl_have L_repl_have_3 a.1 a.2.1 _) (fun a b K => n_repl_have L_repl_have_3 a.1 a.2.1 K)

def an_repl_Commit : Nat → LAnn := fun n => (find n [(2, ⟨2, [1, 2, 3, 4, 5, 11], [], [10, 11, 12, 13, 16, 17, 18, 19, 20, 21, 22, 23, 24, 25, 26, 27, 28, 29, 30, 31, 32, 33, 34, 35, 36, 37, 38, 39, 40, 41, 42, 43], [4, 10]⟩)]).getD ⟨0, [], [], [], []⟩
noncomputable def fd_repl_Commit : FD := fdOf Try.prog an_repl_Commit Try.f17
def br_repl_Commit : FuncId → CC := fun f => ⟨([] : List Nat).contains f, (find f []).getD [], (find f []).getD []⟩
def rc_repl_Commit : RC := ⟨true, [], []⟩
theorem hl_repl_Commit_2 (F_rlog_Last : A_rlog_Last → M_rlog_Last → Option O_rlog_Last) (F_rlog_Term : A_rlog_Term → M_rlog_Term → Option O_rlog_Term) (F_repl_have : A_repl_have → M_repl_have → Option O_repl_have) (F_vote_Most : A_vote_Most → M_vote_Most → Option O_vote_Most) (x1 : List Int) (x2 : List (Int × Int × Int)) (x3 : Int) (x4 : Int) (x5 : Int) (x6 : Int) (x7 : Int) (x8 : List (Int × Int × ByteArray)) {α : Type} (kn : St → Option α) (K : Out → St → Option α) : round (table [(35, ⟨args_rlog_Last, mem_rlog_Last, outs_rlog_Last, F_rlog_Last⟩), (21, ⟨args_rlog_Term, mem_rlog_Term, outs_rlog_Term, F_rlog_Term⟩), (42, ⟨args_repl_have, mem_repl_have, outs_repl_have, F_repl_have⟩), (30, ⟨args_vote_Most, mem_vote_Most, outs_vote_Most, F_vote_Most⟩)] []) br_repl_Commit (an_repl_Commit 2) (fd_repl_Commit.loop 2) kn ⟨ltmps_repl_Commit_2.svs (x1, (x2, (x3, (x4, (x5, ()))))), lmem_repl_Commit_2.mem ((x6, (x7, (x8, ()))), ())⟩ K = ltree_repl_Commit_2 F_rlog_Term F_repl_have F_vote_Most x1 x2 x3 x4 x5 x6 x7 x8 (fun a b => kn ⟨ltmps_repl_Commit_2.svs a, lmem_repl_Commit_2.mem b⟩) (fun r => outLsRun louts_repl_Commit_2 r K) := by kernel_rfl
noncomputable def D_repl_Commit_2 : LCon := ⟨ltmps_repl_Commit_2, lmem_repl_Commit_2, louts_repl_Commit_2, L_repl_Commit_2⟩
theorem kl_repl_Commit_2 : Known Try.prog fd_repl_Commit [(35, C_rlog_Last), (21, C_rlog_Term), (42, C_repl_have), (30, C_vote_Most)] [] := known_of mixT (by kernel_rfl) ⟨ok_rlog_Last, ok_rlog_Term, ok_repl_have, ok_vote_Most, trivial⟩ trivial
theorem okl_repl_Commit_2 : LConOK Try.prog (fd_repl_Commit.loop 2) D_repl_Commit_2 := lcon_of kl_repl_Commit_2 (byRef := br_repl_Commit) (lan := an_repl_Commit 2) (id := 2) (by kernel_rfl) ltmps_repl_Commit_2 lmem_repl_Commit_2 louts_repl_Commit_2 (fun a b kn kr => ltree_repl_Commit_2 F_rlog_Term F_repl_have F_vote_Most a.1 a.2.1 a.2.2.1 a.2.2.2.1 a.2.2.2.2.1 b.1.1 b.1.2.1 b.1.2.2.1 kn kr) (fun a b => hl_repl_Commit_2 F_rlog_Last F_rlog_Term F_repl_have F_vote_Most a.1 a.2.1 a.2.2.1 a.2.2.2.1 a.2.2.2.2.1 b.1.1 b.1.2.1 b.1.2.2.1 _ _) (fun a b kn kr => nl_repl_Commit_2 F_rlog_Term F_repl_have F_vote_Most a.1 a.2.1 a.2.2.1 a.2.2.2.1 a.2.2.2.2.1 b.1.1 b.1.2.1 b.1.2.2.1 kn kr)
theorem h_repl_Commit (F_rlog_Last : A_rlog_Last → M_rlog_Last → Option O_rlog_Last) (F_rlog_Term : A_rlog_Term → M_rlog_Term → Option O_rlog_Term) (F_repl_have : A_repl_have → M_repl_have → Option O_repl_have) (F_vote_Most : A_vote_Most → M_vote_Most → Option O_vote_Most) (L_repl_Commit_2 : LT_repl_Commit_2 → LM_repl_Commit_2 → Option LO_repl_Commit_2) (x1 : Int) (x2 : Int) (x3 : List (Int × Int × ByteArray)) (x4 : List Int) (x5 : List (Int × Int × Int)) (x6 : Int) (x7 : Int) {α : Type} (K : SV → Mem → Option α) : callBody (table [(35, ⟨args_rlog_Last, mem_rlog_Last, outs_rlog_Last, F_rlog_Last⟩), (21, ⟨args_rlog_Term, mem_rlog_Term, outs_rlog_Term, F_rlog_Term⟩), (42, ⟨args_repl_have, mem_repl_have, outs_repl_have, F_repl_have⟩), (30, ⟨args_vote_Most, mem_vote_Most, outs_vote_Most, F_vote_Most⟩)] [(2, ⟨ltmps_repl_Commit_2, lmem_repl_Commit_2, louts_repl_Commit_2, L_repl_Commit_2⟩)]) br_repl_Commit rc_repl_Commit fd_repl_Commit (args_repl_Commit.svs ((x1, (x2, (x3, ()))), (x4, (x5, (x6, (x7, ())))))) (mem_repl_Commit.mem ()) K = tree_repl_Commit F_rlog_Last L_repl_Commit_2 x1 x2 x3 x4 x5 x6 x7 (fun r => outsRun outs_repl_Commit r K) := by kernel_rfl
noncomputable def C_repl_Commit : Con := ⟨args_repl_Commit, mem_repl_Commit, outs_repl_Commit, F_repl_Commit⟩
theorem k_repl_Commit : Known Try.prog fd_repl_Commit [(35, C_rlog_Last), (21, C_rlog_Term), (42, C_repl_have), (30, C_vote_Most)] [(2, D_repl_Commit_2)] := known_of mixT (by kernel_rfl) ⟨ok_rlog_Last, ok_rlog_Term, ok_repl_have, ok_vote_Most, trivial⟩ ⟨okl_repl_Commit_2, trivial⟩
theorem fn_repl_Commit : FnOK Try.prog an_repl_Commit 17 Try.f17 fd_repl_Commit := fnOK (by kernel_rfl) (by kernel_rfl) (by kernel_rfl)
theorem ok_repl_Commit : ConOK Try.prog 17 C_repl_Commit := con_of k_repl_Commit (byRef := br_repl_Commit) fn_repl_Commit rc_repl_Commit args_repl_Commit mem_repl_Commit outs_repl_Commit (fun a b K => tree_repl_Commit F_rlog_Last L_repl_Commit_2 a.1.1 a.1.2.1 a.1.2.2.1 a.2.1 a.2.2.1 a.2.2.2.1 a.2.2.2.2.1 K) (fun a b => h_repl_Commit F_rlog_Last F_rlog_Term F_repl_have F_vote_Most L_repl_Commit_2 a.1.1 a.1.2.1 a.1.2.2.1 a.2.1 a.2.2.1 a.2.2.2.1 a.2.2.2.2.1 _) (fun a b K => n_repl_Commit F_rlog_Last L_repl_Commit_2 a.1.1 a.1.2.1 a.1.2.2.1 a.2.1 a.2.2.1 a.2.2.2.1 a.2.2.2.2.1 K)

def an_repl_Send : Nat → LAnn := fun n => (find n []).getD ⟨0, [], [], [], []⟩
noncomputable def fd_repl_Send : FD := fdOf Try.prog an_repl_Send Try.f14
def br_repl_Send : FuncId → CC := fun f => ⟨([] : List Nat).contains f, (find f []).getD [], (find f []).getD []⟩
def rc_repl_Send : RC := ⟨true, [], []⟩
theorem h_repl_Send (F_rlog_Last : A_rlog_Last → M_rlog_Last → Option O_rlog_Last) (F_rlog_Term : A_rlog_Term → M_rlog_Term → Option O_rlog_Term) (F_rlog_Slice : A_rlog_Slice → M_rlog_Slice → Option O_rlog_Slice) (x1 : Int) (x2 : Int) (x3 : List (Int × Int × ByteArray)) (x4 : Int) (x5 : Int) {α : Type} (K : SV → Mem → Option α) : callBody (table [(35, ⟨args_rlog_Last, mem_rlog_Last, outs_rlog_Last, F_rlog_Last⟩), (21, ⟨args_rlog_Term, mem_rlog_Term, outs_rlog_Term, F_rlog_Term⟩), (38, ⟨args_rlog_Slice, mem_rlog_Slice, outs_rlog_Slice, F_rlog_Slice⟩)] []) br_repl_Send rc_repl_Send fd_repl_Send (args_repl_Send.svs ((x1, (x2, (x3, ()))), (x4, (x5, ())))) (mem_repl_Send.mem ()) K = tree_repl_Send F_rlog_Last F_rlog_Term F_rlog_Slice x1 x2 x3 x4 x5 (fun r => outsRun outs_repl_Send r K) := by kernel_rfl
noncomputable def C_repl_Send : Con := ⟨args_repl_Send, mem_repl_Send, outs_repl_Send, F_repl_Send⟩
theorem k_repl_Send : Known Try.prog fd_repl_Send [(35, C_rlog_Last), (21, C_rlog_Term), (38, C_rlog_Slice)] [] := known_of mixT (by kernel_rfl) ⟨ok_rlog_Last, ok_rlog_Term, ok_rlog_Slice, trivial⟩ trivial
theorem fn_repl_Send : FnOK Try.prog an_repl_Send 14 Try.f14 fd_repl_Send := fnOK (by kernel_rfl) (by kernel_rfl) (by kernel_rfl)
theorem ok_repl_Send : ConOK Try.prog 14 C_repl_Send := con_of k_repl_Send (byRef := br_repl_Send) fn_repl_Send rc_repl_Send args_repl_Send mem_repl_Send outs_repl_Send (fun a b K => tree_repl_Send F_rlog_Last F_rlog_Term F_rlog_Slice a.1.1 a.1.2.1 a.1.2.2.1 a.2.1 a.2.2.1 K) (fun a b => h_repl_Send F_rlog_Last F_rlog_Term F_rlog_Slice a.1.1 a.1.2.1 a.1.2.2.1 a.2.1 a.2.2.1 _) (fun a b K => n_repl_Send F_rlog_Last F_rlog_Term F_rlog_Slice a.1.1 a.1.2.1 a.1.2.2.1 a.2.1 a.2.2.1 K)

end Go.Proofs.Ytjhaidbfahobmaa.S2
