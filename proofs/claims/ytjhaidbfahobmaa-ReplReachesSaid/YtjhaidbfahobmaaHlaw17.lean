/- The program's functions come to their plain forms, by program. -/
import Derived.Test.YtjhaidbfahobmaaGlaw17
import Derived.Test.YtjhaidbfahobmaaHrepl
set_option maxRecDepth 100000
set_option maxHeartbeats 0
set_option linter.unusedVariables false
set_option linter.unusedSimpArgs false
namespace Go.Proofs.Ytjhaidbfahobmaa.S2
open Go
def an_law17_match : Nat → LAnn := fun n => (find n [(3, ⟨3, [0, 1, 5, 6], [], [4, 5, 6, 7, 8, 9, 10, 11, 12, 13, 14, 15, 16, 17, 18, 19, 20, 21, 22, 23, 24, 25, 26, 27, 28, 29, 30, 31, 32, 33, 34, 35, 36, 37, 38, 39, 40, 41, 42, 43, 44, 45, 46], [4]⟩)]).getD ⟨0, [], [], [], []⟩
noncomputable def fd_law17_match : FD := fdOf Try.prog an_law17_match Try.f34
def br_law17_match : FuncId → CC := fun f => ⟨([] : List Nat).contains f, (find f []).getD [], (find f []).getD []⟩
def rc_law17_match : RC := ⟨true, [], []⟩
theorem hl_law17_match_3 (x1 : List (Int × Int × ByteArray)) (x2 : List (Int × Int × ByteArray)) (x3 : Bool) (x4 : Int) {α : Type} (kn : St → Option α) (K : Out → St → Option α) : round (table [] []) br_law17_match (an_law17_match 3) (fd_law17_match.loop 3) kn ⟨ltmps_law17_match_3.svs (x1, (x2, (x3, (x4, ())))), lmem_law17_match_3.mem ()⟩ K = ltree_law17_match_3 x1 x2 x3 x4 (fun a b => kn ⟨ltmps_law17_match_3.svs a, lmem_law17_match_3.mem b⟩) (fun r => outLsRun louts_law17_match_3 r K) := by kernel_rfl
noncomputable def D_law17_match_3 : LCon := ⟨ltmps_law17_match_3, lmem_law17_match_3, louts_law17_match_3, L_law17_match_3⟩
theorem kl_law17_match_3 : Known Try.prog fd_law17_match [] [] := known_of mixT (by kernel_rfl) trivial trivial
theorem okl_law17_match_3 : LConOK Try.prog (fd_law17_match.loop 3) D_law17_match_3 := lcon_of kl_law17_match_3 (byRef := br_law17_match) (lan := an_law17_match 3) (id := 3) (by kernel_rfl) ltmps_law17_match_3 lmem_law17_match_3 louts_law17_match_3 (fun a b kn kr => ltree_law17_match_3 a.1 a.2.1 a.2.2.1 a.2.2.2.1 kn kr) (fun a b => hl_law17_match_3 a.1 a.2.1 a.2.2.1 a.2.2.2.1 _ _) (fun a b kn kr => nl_law17_match_3 a.1 a.2.1 a.2.2.1 a.2.2.2.1 kn kr)
theorem h_law17_match (L_law17_match_3 : LT_law17_match_3 → LM_law17_match_3 → Option LO_law17_match_3) (x1 : List (Int × Int × ByteArray)) (x2 : List (Int × Int × ByteArray)) {α : Type} (K : SV → Mem → Option α) : callBody (table [] [(3, ⟨ltmps_law17_match_3, lmem_law17_match_3, louts_law17_match_3, L_law17_match_3⟩)]) br_law17_match rc_law17_match fd_law17_match (args_law17_match.svs (x1, (x2, ()))) (mem_law17_match.mem ()) K = tree_law17_match L_law17_match_3 x1 x2 (fun r => outsRun outs_law17_match r K) := by kernel_rfl
noncomputable def C_law17_match : Con := ⟨args_law17_match, mem_law17_match, outs_law17_match, F_law17_match⟩
theorem k_law17_match : Known Try.prog fd_law17_match [] [(3, D_law17_match_3)] := known_of mixT (by kernel_rfl) trivial ⟨okl_law17_match_3, trivial⟩
theorem fn_law17_match : FnOK Try.prog an_law17_match 34 Try.f34 fd_law17_match := fnOK (by kernel_rfl) (by kernel_rfl) (by kernel_rfl)
theorem ok_law17_match : ConOK Try.prog 34 C_law17_match := con_of k_law17_match (byRef := br_law17_match) fn_law17_match rc_law17_match args_law17_match mem_law17_match outs_law17_match (fun a b K => tree_law17_match L_law17_match_3 a.1 a.2.1 K) (fun a b => h_law17_match L_law17_match_3 a.1 a.2.1 _) (fun a b K => n_law17_match L_law17_match_3 a.1 a.2.1 K)

def an_law17_terms : Nat → LAnn := fun n => (find n [(3, ⟨3, [0, 2, 3, 4], [(.cell 1096 2, 503, 70, (.cons (.int .u64) (.cons (.int .i64) (.cons .str .nil))))], [4, 6, 7, 8, 9, 10, 11, 12, 13, 14, 15, 16, 17, 18, 19, 20, 21], [2, 3]⟩)]).getD ⟨0, [], [], [], []⟩
noncomputable def fd_law17_terms : FD := fdOf Try.prog an_law17_terms Try.f37
def br_law17_terms : FuncId → CC := fun f => ⟨([] : List Nat).contains f, (find f []).getD [], (find f []).getD []⟩
def rc_law17_terms : RC := ⟨true, [], []⟩
theorem hl_law17_terms_3 (x1 : List Int) (x2 : Int) (x3 : List (Int × Int × ByteArray)) (x4 : Int) (x5 : Int) (x6 : Int) (x7 : Int) {α : Type} (kn : St → Option α) (K : Out → St → Option α) : round (table [] []) br_law17_terms (an_law17_terms 3) (fd_law17_terms.loop 3) kn ⟨ltmps_law17_terms_3.svs (x1, (x2, ())), lmem_law17_terms_3.mem (x3, ((x4, (x5, ())), ((x6, (x7, ())), ())))⟩ K = ltree_law17_terms_3 x1 x2 x3 x4 x5 x6 x7 (fun a b => kn ⟨ltmps_law17_terms_3.svs a, lmem_law17_terms_3.mem b⟩) (fun r => outLsRun louts_law17_terms_3 r K) := by kernel_rfl
noncomputable def D_law17_terms_3 : LCon := ⟨ltmps_law17_terms_3, lmem_law17_terms_3, louts_law17_terms_3, L_law17_terms_3⟩
theorem kl_law17_terms_3 : Known Try.prog fd_law17_terms [] [] := known_of mixT (by kernel_rfl) trivial trivial
theorem okl_law17_terms_3 : LConOK Try.prog (fd_law17_terms.loop 3) D_law17_terms_3 := lcon_of kl_law17_terms_3 (byRef := br_law17_terms) (lan := an_law17_terms 3) (id := 3) (by kernel_rfl) ltmps_law17_terms_3 lmem_law17_terms_3 louts_law17_terms_3 (fun a b kn kr => ltree_law17_terms_3 a.1 a.2.1 b.1 b.2.1.1 b.2.1.2.1 b.2.2.1.1 b.2.2.1.2.1 kn kr) (fun a b => hl_law17_terms_3 a.1 a.2.1 b.1 b.2.1.1 b.2.1.2.1 b.2.2.1.1 b.2.2.1.2.1 _ _) (fun a b kn kr => nl_law17_terms_3 a.1 a.2.1 b.1 b.2.1.1 b.2.1.2.1 b.2.2.1.1 b.2.2.1.2.1 kn kr)
theorem h_law17_terms (L_law17_terms_3 : LT_law17_terms_3 → LM_law17_terms_3 → Option LO_law17_terms_3) (x1 : List Int) {α : Type} (K : SV → Mem → Option α) : callBody (table [] [(3, ⟨ltmps_law17_terms_3, lmem_law17_terms_3, louts_law17_terms_3, L_law17_terms_3⟩)]) br_law17_terms rc_law17_terms fd_law17_terms (args_law17_terms.svs (x1, ())) (mem_law17_terms.mem ()) K = tree_law17_terms L_law17_terms_3 x1 (fun r => outsRun outs_law17_terms r K) := by kernel_rfl
noncomputable def C_law17_terms : Con := ⟨args_law17_terms, mem_law17_terms, outs_law17_terms, F_law17_terms⟩
theorem k_law17_terms : Known Try.prog fd_law17_terms [] [(3, D_law17_terms_3)] := known_of mixT (by kernel_rfl) trivial ⟨okl_law17_terms_3, trivial⟩
theorem fn_law17_terms : FnOK Try.prog an_law17_terms 37 Try.f37 fd_law17_terms := fnOK (by kernel_rfl) (by kernel_rfl) (by kernel_rfl)
theorem ok_law17_terms : ConOK Try.prog 37 C_law17_terms := con_of k_law17_terms (byRef := br_law17_terms) fn_law17_terms rc_law17_terms args_law17_terms mem_law17_terms outs_law17_terms (fun a b K => tree_law17_terms L_law17_terms_3 a.1 K) (fun a b => h_law17_terms L_law17_terms_3 a.1 _) (fun a b K => n_law17_terms L_law17_terms_3 a.1 K)

def an_law17_fixed : Nat → LAnn := fun n => (find n []).getD ⟨0, [], [], [], []⟩
noncomputable def fd_law17_fixed : FD := fdOf Try.prog an_law17_fixed Try.f12
def br_law17_fixed : FuncId → CC := fun f => ⟨([] : List Nat).contains f, (find f []).getD [], (find f []).getD []⟩
def rc_law17_fixed : RC := ⟨true, [], []⟩
theorem h_law17_fixed (F_law17_terms : A_law17_terms → M_law17_terms → Option O_law17_terms) (F_repl_Send : A_repl_Send → M_repl_Send → Option O_repl_Send) (F_repl_Commit : A_repl_Commit → M_repl_Commit → Option O_repl_Commit) (F_repl_Back : A_repl_Back → M_repl_Back → Option O_repl_Back) {α : Type} (K : SV → Mem → Option α) : callBody (table [(37, ⟨args_law17_terms, mem_law17_terms, outs_law17_terms, F_law17_terms⟩), (14, ⟨args_repl_Send, mem_repl_Send, outs_repl_Send, F_repl_Send⟩), (17, ⟨args_repl_Commit, mem_repl_Commit, outs_repl_Commit, F_repl_Commit⟩), (19, ⟨args_repl_Back, mem_repl_Back, outs_repl_Back, F_repl_Back⟩)] []) br_law17_fixed rc_law17_fixed fd_law17_fixed (args_law17_fixed.svs ()) (mem_law17_fixed.mem ()) K = tree_law17_fixed F_law17_terms F_repl_Send F_repl_Commit F_repl_Back (fun r => outsRun outs_law17_fixed r K) := by kernel_rfl
noncomputable def C_law17_fixed : Con := ⟨args_law17_fixed, mem_law17_fixed, outs_law17_fixed, F_law17_fixed⟩
theorem k_law17_fixed : Known Try.prog fd_law17_fixed [(37, C_law17_terms), (14, C_repl_Send), (17, C_repl_Commit), (19, C_repl_Back)] [] := known_of mixT (by kernel_rfl) ⟨ok_law17_terms, ok_repl_Send, ok_repl_Commit, ok_repl_Back, trivial⟩ trivial
theorem fn_law17_fixed : FnOK Try.prog an_law17_fixed 12 Try.f12 fd_law17_fixed := fnOK (by kernel_rfl) (by kernel_rfl) (by kernel_rfl)
theorem ok_law17_fixed : ConOK Try.prog 12 C_law17_fixed := con_of k_law17_fixed (byRef := br_law17_fixed) fn_law17_fixed rc_law17_fixed args_law17_fixed mem_law17_fixed outs_law17_fixed (fun a b K => tree_law17_fixed F_law17_terms F_repl_Send F_repl_Commit F_repl_Back K) (fun a b => h_law17_fixed F_law17_terms F_repl_Send F_repl_Commit F_repl_Back _) (fun a b K => n_law17_fixed F_law17_terms F_repl_Send F_repl_Commit F_repl_Back K)

end Go.Proofs.Ytjhaidbfahobmaa.S2
