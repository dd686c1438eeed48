/- The program's functions come to their plain forms, by program. -/
import Derived.Test.YtjhaidbfahobmaaGvote
import Derived.Test.YtjhaidbfahobmaaHrlog
import Derived.Test.YtjhaidbfahobmaaHsort
import Derived.Test.YtjhaidbfahobmaaApp
set_option maxRecDepth 100000
set_option maxHeartbeats 0
set_option linter.unusedVariables false
set_option linter.unusedSimpArgs false
namespace Go.Proofs.Ytjhaidbfahobmaa.S2
open Go
noncomputable def C_s_AppendSeq_u : Con := ⟨args_s_AppendSeq_u, mem_s_AppendSeq_u, outs_s_AppendSeq_u, F_s_AppendSeq_u⟩
theorem ok_s_AppendSeq_u : ConOK Try.prog 65 C_s_AppendSeq_u := AppSeq.holds

def an_s_Collect_u : Nat → LAnn := fun n => (find n []).getD ⟨0, [], [], [], []⟩
noncomputable def fd_s_Collect_u : FD := fdOf Try.prog an_s_Collect_u Try.f62
def br_s_Collect_u : FuncId → CC := fun f => ⟨([65] : List Nat).contains f, (find f []).getD [], (find f []).getD []⟩
def rc_s_Collect_u : RC := ⟨false, [], []⟩
theorem h_s_Collect_u (F_s_AppendSeq_u : A_s_AppendSeq_u → M_s_AppendSeq_u → Option O_s_AppendSeq_u) (x1 : List Int) {α : Type} (K : SV → Mem → Option α) : callBody (table [(65, ⟨args_s_AppendSeq_u, mem_s_AppendSeq_u, outs_s_AppendSeq_u, F_s_AppendSeq_u⟩)] []) br_s_Collect_u rc_s_Collect_u fd_s_Collect_u (args_s_Collect_u.svs ((), ())) (mem_s_Collect_u.mem ((x1, ()), ())) K = tree_s_Collect_u F_s_AppendSeq_u x1 (fun r => outsRun outs_s_Collect_u r K) := by kernel_rfl
noncomputable def C_s_Collect_u : Con := ⟨args_s_Collect_u, mem_s_Collect_u, outs_s_Collect_u, F_s_Collect_u⟩
theorem k_s_Collect_u : Known Try.prog fd_s_Collect_u [(65, C_s_AppendSeq_u)] [] := known_of mixT (by kernel_rfl) ⟨ok_s_AppendSeq_u, trivial⟩ trivial
theorem fn_s_Collect_u : FnOK Try.prog an_s_Collect_u 62 Try.f62 fd_s_Collect_u := fnOK (by kernel_rfl) (by kernel_rfl) (by kernel_rfl)
theorem ok_s_Collect_u : ConOK Try.prog 62 C_s_Collect_u := con_of k_s_Collect_u (byRef := br_s_Collect_u) fn_s_Collect_u rc_s_Collect_u args_s_Collect_u mem_s_Collect_u outs_s_Collect_u (fun a b K => tree_s_Collect_u F_s_AppendSeq_u b.1.1 K) (fun a b => h_s_Collect_u F_s_AppendSeq_u b.1.1 _) (fun a b K => n_s_Collect_u F_s_AppendSeq_u b.1.1 K)

def an_s_Values_u : Nat → LAnn := fun n => (find n []).getD ⟨0, [], [], [], []⟩
noncomputable def fd_s_Values_u : FD := fdOf Try.prog an_s_Values_u Try.f58
def br_s_Values_u : FuncId → CC := fun f => ⟨([] : List Nat).contains f, (find f []).getD [], (find f []).getD []⟩
def rc_s_Values_u : RC := ⟨false, [], []⟩
theorem h_s_Values_u (x1 : List Int) {α : Type} (K : SV → Mem → Option α) : callBody (table [] []) br_s_Values_u rc_s_Values_u fd_s_Values_u (args_s_Values_u.svs (x1, ())) (mem_s_Values_u.mem ()) K = tree_s_Values_u x1 (fun r => outsRun outs_s_Values_u r K) := by kernel_rfl
noncomputable def C_s_Values_u : Con := ⟨args_s_Values_u, mem_s_Values_u, outs_s_Values_u, F_s_Values_u⟩
theorem k_s_Values_u : Known Try.prog fd_s_Values_u [] [] := known_of mixT (by kernel_rfl) trivial trivial
theorem fn_s_Values_u : FnOK Try.prog an_s_Values_u 58 Try.f58 fd_s_Values_u := fnOK (by kernel_rfl) (by kernel_rfl) (by kernel_rfl)
theorem ok_s_Values_u : ConOK Try.prog 58 C_s_Values_u := con_of k_s_Values_u (byRef := br_s_Values_u) fn_s_Values_u rc_s_Values_u args_s_Values_u mem_s_Values_u outs_s_Values_u (fun a b K => tree_s_Values_u a.1 K) (fun a b => h_s_Values_u a.1 _) (fun a b K => n_s_Values_u a.1 K)

def an_s_Sorted_u : Nat → LAnn := fun n => (find n []).getD ⟨0, [], [], [], []⟩
noncomputable def fd_s_Sorted_u : FD := fdOf Try.prog an_s_Sorted_u Try.f57
def br_s_Sorted_u : FuncId → CC := fun f => ⟨([62, 63] : List Nat).contains f, (find f []).getD [], (find f []).getD []⟩
def rc_s_Sorted_u : RC := ⟨false, [], []⟩
theorem h_s_Sorted_u (F_s_Collect_u : A_s_Collect_u → M_s_Collect_u → Option O_s_Collect_u) (F_s_Sort_u : A_s_Sort_u → M_s_Sort_u → Option O_s_Sort_u) (x1 : List Int) {α : Type} (K : SV → Mem → Option α) : callBody (table [(62, ⟨args_s_Collect_u, mem_s_Collect_u, outs_s_Collect_u, F_s_Collect_u⟩), (63, ⟨args_s_Sort_u, mem_s_Sort_u, outs_s_Sort_u, F_s_Sort_u⟩)] []) br_s_Sorted_u rc_s_Sorted_u fd_s_Sorted_u (args_s_Sorted_u.svs ((), ())) (mem_s_Sorted_u.mem ((x1, ()), ())) K = tree_s_Sorted_u F_s_Collect_u F_s_Sort_u x1 (fun r => outsRun outs_s_Sorted_u r K) := by kernel_rfl
noncomputable def C_s_Sorted_u : Con := ⟨args_s_Sorted_u, mem_s_Sorted_u, outs_s_Sorted_u, F_s_Sorted_u⟩
theorem k_s_Sorted_u : Known Try.prog fd_s_Sorted_u [(62, C_s_Collect_u), (63, C_s_Sort_u)] [] := known_of mixT (by kernel_rfl) ⟨ok_s_Collect_u, ok_s_Sort_u, trivial⟩ trivial
theorem fn_s_Sorted_u : FnOK Try.prog an_s_Sorted_u 57 Try.f57 fd_s_Sorted_u := fnOK (by kernel_rfl) (by kernel_rfl) (by kernel_rfl)
theorem ok_s_Sorted_u : ConOK Try.prog 57 C_s_Sorted_u := con_of k_s_Sorted_u (byRef := br_s_Sorted_u) fn_s_Sorted_u rc_s_Sorted_u args_s_Sorted_u mem_s_Sorted_u outs_s_Sorted_u (fun a b K => tree_s_Sorted_u F_s_Collect_u F_s_Sort_u b.1.1 K) (fun a b => h_s_Sorted_u F_s_Collect_u F_s_Sort_u b.1.1 _) (fun a b K => n_s_Sorted_u F_s_Collect_u F_s_Sort_u b.1.1 K)

def an_s_Compact_u : Nat → LAnn := fun n => (find n [(9, ⟨9, [0, 3, 4, 5], [], [3, 5, 29, 30, 31, 32, 33, 34, 35, 36, 37, 38, 39, 40, 41, 42, 43, 44, 45, 46, 47, 48, 49, 50, 51, 52, 53], [0, 3]⟩), (4, ⟨4, [0, 3], [], [2, 3, 4, 5, 10, 11, 12, 13, 14, 15, 16, 17, 18, 19, 20, 21, 22, 23, 24, 25, 26, 27, 28, 29, 30, 31, 32, 33, 34, 35, 36, 37, 38, 39, 40, 41, 42, 43, 44, 45, 46, 47, 48, 49, 50, 51, 52, 53, 54, 55, 56, 57, 58, 59], [0, 2]⟩)]).getD ⟨0, [], [], [], []⟩
noncomputable def fd_s_Compact_u : FD := fdOf Try.prog an_s_Compact_u Try.f56
def br_s_Compact_u : FuncId → CC := fun f => ⟨([] : List Nat).contains f, (find f []).getD [], (find f []).getD []⟩
def rc_s_Compact_u : RC := ⟨false, [], [(0, 0, 0)]⟩
theorem hl_s_Compact_u_9 (x1 : Int) (x2 : Nat × Nat) (x3 : Int) (x4 : List Int) {α : Type} (kn : St → Option α) (K : Out → St → Option α) : round (table [] []) br_s_Compact_u (an_s_Compact_u 9) (fd_s_Compact_u.loop 9) kn ⟨ltmps_s_Compact_u_9.svs (x1, (x2, (x3, ()))), lmem_s_Compact_u_9.mem (x4, ())⟩ K = ltree_s_Compact_u_9 x1 x2 x3 x4 (fun a b => kn ⟨ltmps_s_Compact_u_9.svs a, lmem_s_Compact_u_9.mem b⟩) (fun r => outLsRun louts_s_Compact_u_9 r K) := by kernel_rfl
noncomputable def D_s_Compact_u_9 : LCon := ⟨ltmps_s_Compact_u_9, lmem_s_Compact_u_9, louts_s_Compact_u_9, L_s_Compact_u_9⟩
theorem kl_s_Compact_u_9 : Known Try.prog fd_s_Compact_u [] [] := known_of mixT (by kernel_rfl) trivial trivial
theorem okl_s_Compact_u_9 : LConOK Try.prog (fd_s_Compact_u.loop 9) D_s_Compact_u_9 := lcon_of kl_s_Compact_u_9 (byRef := br_s_Compact_u) (lan := an_s_Compact_u 9) (id := 9) (by kernel_rfl) ltmps_s_Compact_u_9 lmem_s_Compact_u_9 louts_s_Compact_u_9 (fun a b kn kr => ltree_s_Compact_u_9 a.1 a.2.1 a.2.2.1 b.1 kn kr) (fun a b => hl_s_Compact_u_9 a.1 a.2.1 a.2.2.1 b.1 _ _) (fun a b kn kr => nl_s_Compact_u_9 a.1 a.2.1 a.2.2.1 b.1 kn kr)
theorem hl_s_Compact_u_4 (L_s_Compact_u_9 : LT_s_Compact_u_9 → LM_s_Compact_u_9 → Option LO_s_Compact_u_9) (x1 : Int) (x2 : List Int) {α : Type} (kn : St → Option α) (K : Out → St → Option α) : round (table [] [(9, ⟨ltmps_s_Compact_u_9, lmem_s_Compact_u_9, louts_s_Compact_u_9, L_s_Compact_u_9⟩)]) br_s_Compact_u (an_s_Compact_u 4) (fd_s_Compact_u.loop 4) kn ⟨ltmps_s_Compact_u_4.svs (x1, ()), lmem_s_Compact_u_4.mem (x2, ())⟩ K = ltree_s_Compact_u_4 L_s_Compact_u_9 x1 x2 (fun a b => kn ⟨ltmps_s_Compact_u_4.svs a, lmem_s_Compact_u_4.mem b⟩) (fun r => outLsRun louts_s_Compact_u_4 r K) := by kernel_rfl
noncomputable def D_s_Compact_u_4 : LCon := ⟨ltmps_s_Compact_u_4, lmem_s_Compact_u_4, louts_s_Compact_u_4, L_s_Compact_u_4⟩
theorem kl_s_Compact_u_4 : Known Try.prog fd_s_Compact_u [] [(9, D_s_Compact_u_9)] := known_of mixT (by kernel_rfl) trivial ⟨okl_s_Compact_u_9, trivial⟩
theorem okl_s_Compact_u_4 : LConOK Try.prog (fd_s_Compact_u.loop 4) D_s_Compact_u_4 := lcon_of kl_s_Compact_u_4 (byRef := br_s_Compact_u) (lan := an_s_Compact_u 4) (id := 4) (by kernel_rfl) ltmps_s_Compact_u_4 lmem_s_Compact_u_4 louts_s_Compact_u_4 (fun a b kn kr => ltree_s_Compact_u_4 L_s_Compact_u_9 a.1 b.1 kn kr) (fun a b => hl_s_Compact_u_4 L_s_Compact_u_9 a.1 b.1 _ _) (fun a b kn kr => nl_s_Compact_u_4 L_s_Compact_u_9 a.1 b.1 kn kr)
theorem h_s_Compact_u (L_s_Compact_u_9 : LT_s_Compact_u_9 → LM_s_Compact_u_9 → Option LO_s_Compact_u_9) (L_s_Compact_u_4 : LT_s_Compact_u_4 → LM_s_Compact_u_4 → Option LO_s_Compact_u_4) (x1 : List Int) {α : Type} (K : SV → Mem → Option α) : callBody (table [] [(9, ⟨ltmps_s_Compact_u_9, lmem_s_Compact_u_9, louts_s_Compact_u_9, L_s_Compact_u_9⟩), (4, ⟨ltmps_s_Compact_u_4, lmem_s_Compact_u_4, louts_s_Compact_u_4, L_s_Compact_u_4⟩)]) br_s_Compact_u rc_s_Compact_u fd_s_Compact_u (args_s_Compact_u.svs ()) (mem_s_Compact_u.mem (x1, ())) K = tree_s_Compact_u L_s_Compact_u_4 x1 (fun r => outsRun outs_s_Compact_u r K) := by kernel_rfl
noncomputable def C_s_Compact_u : Con := ⟨args_s_Compact_u, mem_s_Compact_u, outs_s_Compact_u, F_s_Compact_u⟩
theorem k_s_Compact_u : Known Try.prog fd_s_Compact_u [] [(9, D_s_Compact_u_9), (4, D_s_Compact_u_4)] := known_of mixT (by kernel_rfl) trivial ⟨okl_s_Compact_u_9, okl_s_Compact_u_4, trivial⟩
theorem fn_s_Compact_u : FnOK Try.prog an_s_Compact_u 56 Try.f56 fd_s_Compact_u := fnOK (by kernel_rfl) (by kernel_rfl) (by kernel_rfl)
theorem ok_s_Compact_u : ConOK Try.prog 56 C_s_Compact_u := con_of k_s_Compact_u (byRef := br_s_Compact_u) fn_s_Compact_u rc_s_Compact_u args_s_Compact_u mem_s_Compact_u outs_s_Compact_u (fun a b K => tree_s_Compact_u L_s_Compact_u_4 b.1 K) (fun a b => h_s_Compact_u L_s_Compact_u_9 L_s_Compact_u_4 b.1 _) (fun a b K => n_s_Compact_u L_s_Compact_u_4 b.1 K)

def an_vote_once : Nat → LAnn := fun n => (find n []).getD ⟨0, [], [], [], []⟩
noncomputable def fd_vote_once : FD := fdOf Try.prog an_vote_once Try.f47
def br_vote_once : FuncId → CC := fun f => ⟨([56, 57] : List Nat).contains f, (find f []).getD [], (find f []).getD []⟩
def rc_vote_once : RC := ⟨true, [], []⟩
theorem h_vote_once (F_s_Values_u : A_s_Values_u → M_s_Values_u → Option O_s_Values_u) (F_s_Sorted_u : A_s_Sorted_u → M_s_Sorted_u → Option O_s_Sorted_u) (F_s_Compact_u : A_s_Compact_u → M_s_Compact_u → Option O_s_Compact_u) (x1 : List Int) {α : Type} (K : SV → Mem → Option α) : callBody (table [(58, ⟨args_s_Values_u, mem_s_Values_u, outs_s_Values_u, F_s_Values_u⟩), (57, ⟨args_s_Sorted_u, mem_s_Sorted_u, outs_s_Sorted_u, F_s_Sorted_u⟩), (56, ⟨args_s_Compact_u, mem_s_Compact_u, outs_s_Compact_u, F_s_Compact_u⟩)] []) br_vote_once rc_vote_once fd_vote_once (args_vote_once.svs (x1, ())) (mem_vote_once.mem ()) K = tree_vote_once F_s_Values_u F_s_Sorted_u F_s_Compact_u x1 (fun r => outsRun outs_vote_once r K) := by kernel_rfl
noncomputable def C_vote_once : Con := ⟨args_vote_once, mem_vote_once, outs_vote_once, F_vote_once⟩
theorem k_vote_once : Known Try.prog fd_vote_once [(58, C_s_Values_u), (57, C_s_Sorted_u), (56, C_s_Compact_u)] [] := known_of mixT (by kernel_rfl) ⟨ok_s_Values_u, ok_s_Sorted_u, ok_s_Compact_u, trivial⟩ trivial
theorem fn_vote_once : FnOK Try.prog an_vote_once 47 Try.f47 fd_vote_once := fnOK (by kernel_rfl) (by kernel_rfl) (by kernel_rfl)
theorem ok_vote_once : ConOK Try.prog 47 C_vote_once := con_of k_vote_once (byRef := br_vote_once) fn_vote_once rc_vote_once args_vote_once mem_vote_once outs_vote_once (fun a b K => tree_vote_once F_s_Values_u F_s_Sorted_u F_s_Compact_u a.1 K) (fun a b => h_vote_once F_s_Values_u F_s_Sorted_u F_s_Compact_u a.1 _) (fun a b K => n_vote_once F_s_Values_u F_s_Sorted_u F_s_Compact_u a.1 K)

def an_s_Index_u : Nat → LAnn := fun n => (find n [(2, ⟨2, [0, 1, 7, 8], [], [4, 5, 8, 9, 10, 11, 12, 13, 14, 15, 16, 17, 18], [4]⟩)]).getD ⟨0, [], [], [], []⟩
noncomputable def fd_s_Index_u : FD := fdOf Try.prog an_s_Index_u Try.f60
def br_s_Index_u : FuncId → CC := fun f => ⟨([] : List Nat).contains f, (find f []).getD [], (find f []).getD []⟩
def rc_s_Index_u : RC := ⟨true, [], []⟩
theorem hl_s_Index_u_2 (x1 : List Int) (x2 : Int) (x3 : Int) (x4 : Int) {α : Type} (kn : St → Option α) (K : Out → St → Option α) : round (table [] []) br_s_Index_u (an_s_Index_u 2) (fd_s_Index_u.loop 2) kn ⟨ltmps_s_Index_u_2.svs (x1, (x2, (x3, (x4, ())))), lmem_s_Index_u_2.mem ()⟩ K = ltree_s_Index_u_2 x1 x2 x3 x4 (fun a b => kn ⟨ltmps_s_Index_u_2.svs a, lmem_s_Index_u_2.mem b⟩) (fun r => outLsRun louts_s_Index_u_2 r K) := by kernel_rfl
noncomputable def D_s_Index_u_2 : LCon := ⟨ltmps_s_Index_u_2, lmem_s_Index_u_2, louts_s_Index_u_2, L_s_Index_u_2⟩
theorem kl_s_Index_u_2 : Known Try.prog fd_s_Index_u [] [] := known_of mixT (by kernel_rfl) trivial trivial
theorem okl_s_Index_u_2 : LConOK Try.prog (fd_s_Index_u.loop 2) D_s_Index_u_2 := lcon_of kl_s_Index_u_2 (byRef := br_s_Index_u) (lan := an_s_Index_u 2) (id := 2) (by kernel_rfl) ltmps_s_Index_u_2 lmem_s_Index_u_2 louts_s_Index_u_2 (fun a b kn kr => ltree_s_Index_u_2 a.1 a.2.1 a.2.2.1 a.2.2.2.1 kn kr) (fun a b => hl_s_Index_u_2 a.1 a.2.1 a.2.2.1 a.2.2.2.1 _ _) (fun a b kn kr => nl_s_Index_u_2 a.1 a.2.1 a.2.2.1 a.2.2.2.1 kn kr)
theorem h_s_Index_u (L_s_Index_u_2 : LT_s_Index_u_2 → LM_s_Index_u_2 → Option LO_s_Index_u_2) (x1 : List Int) (x2 : Int) {α : Type} (K : SV → Mem → Option α) : callBody (table [] [(2, ⟨ltmps_s_Index_u_2, lmem_s_Index_u_2, louts_s_Index_u_2, L_s_Index_u_2⟩)]) br_s_Index_u rc_s_Index_u fd_s_Index_u (args_s_Index_u.svs (x1, (x2, ()))) (mem_s_Index_u.mem ()) K = tree_s_Index_u L_s_Index_u_2 x1 x2 (fun r => outsRun outs_s_Index_u r K) := by kernel_rfl
noncomputable def C_s_Index_u : Con := ⟨args_s_Index_u, mem_s_Index_u, outs_s_Index_u, F_s_Index_u⟩
theorem k_s_Index_u : Known Try.prog fd_s_Index_u [] [(2, D_s_Index_u_2)] := known_of mixT (by kernel_rfl) trivial ⟨okl_s_Index_u_2, trivial⟩
theorem fn_s_Index_u : FnOK Try.prog an_s_Index_u 60 Try.f60 fd_s_Index_u := fnOK (by kernel_rfl) (by kernel_rfl) (by kernel_rfl)
theorem ok_s_Index_u : ConOK Try.prog 60 C_s_Index_u := con_of k_s_Index_u (byRef := br_s_Index_u) fn_s_Index_u rc_s_Index_u args_s_Index_u mem_s_Index_u outs_s_Index_u (fun a b K => tree_s_Index_u L_s_Index_u_2 a.1 a.2.1 K) (fun a b => h_s_Index_u L_s_Index_u_2 a.1 a.2.1 _) (fun a b K => n_s_Index_u L_s_Index_u_2 a.1 a.2.1 K)

def an_s_Contains_u : Nat → LAnn := fun n => (find n []).getD ⟨0, [], [], [], []⟩
noncomputable def fd_s_Contains_u : FD := fdOf Try.prog an_s_Contains_u Try.f51
def br_s_Contains_u : FuncId → CC := fun f => ⟨([] : List Nat).contains f, (find f []).getD [], (find f []).getD []⟩
def rc_s_Contains_u : RC := ⟨true, [], []⟩
theorem h_s_Contains_u (F_s_Index_u : A_s_Index_u → M_s_Index_u → Option O_s_Index_u) (x1 : List Int) (x2 : Int) {α : Type} (K : SV → Mem → Option α) : callBody (table [(60, ⟨args_s_Index_u, mem_s_Index_u, outs_s_Index_u, F_s_Index_u⟩)] []) br_s_Contains_u rc_s_Contains_u fd_s_Contains_u (args_s_Contains_u.svs (x1, (x2, ()))) (mem_s_Contains_u.mem ()) K = tree_s_Contains_u F_s_Index_u x1 x2 (fun r => outsRun outs_s_Contains_u r K) := by kernel_rfl
noncomputable def C_s_Contains_u : Con := ⟨args_s_Contains_u, mem_s_Contains_u, outs_s_Contains_u, F_s_Contains_u⟩
theorem k_s_Contains_u : Known Try.prog fd_s_Contains_u [(60, C_s_Index_u)] [] := known_of mixT (by kernel_rfl) ⟨ok_s_Index_u, trivial⟩ trivial
theorem fn_s_Contains_u : FnOK Try.prog an_s_Contains_u 51 Try.f51 fd_s_Contains_u := fnOK (by kernel_rfl) (by kernel_rfl) (by kernel_rfl)
theorem ok_s_Contains_u : ConOK Try.prog 51 C_s_Contains_u := con_of k_s_Contains_u (byRef := br_s_Contains_u) fn_s_Contains_u rc_s_Contains_u args_s_Contains_u mem_s_Contains_u outs_s_Contains_u (fun a b K => tree_s_Contains_u F_s_Index_u a.1 a.2.1 K) (fun a b => h_s_Contains_u F_s_Index_u a.1 a.2.1 _) (fun a b K => n_s_Contains_u F_s_Index_u a.1 a.2.1 K)

def an_s_Clone_u : Nat → LAnn := fun n => (find n []).getD ⟨0, [], [], [], []⟩
noncomputable def fd_s_Clone_u : FD := fdOf Try.prog an_s_Clone_u Try.f49
def br_s_Clone_u : FuncId → CC := fun f => ⟨([] : List Nat).contains f, (find f []).getD [], (find f []).getD []⟩
theorem k_s_Clone_u : Known Try.prog fd_s_Clone_u [] [] := known_of mixT (by kernel_rfl) trivial trivial
theorem fn_s_Clone_u : FnOK Try.prog an_s_Clone_u 49 Try.f49 fd_s_Clone_u := fnOK (by kernel_rfl) (by kernel_rfl) (by kernel_rfl)
theorem h0_s_Clone_u : callBody (table [] []) br_s_Clone_u ⟨false, [], []⟩ fd_s_Clone_u [.nils] [] (fun v m => some (v, m)) = some (.nils, []) := by kernel_rfl
theorem h1_s_Clone_u : callBody (table [] []) br_s_Clone_u ⟨false, [], []⟩ fd_s_Clone_u [.pe] [] (fun v m => some (v, m)) = some (.slw 0, [(0, .row 22 (.cons (.int .u64) .nil) [])]) := by kernel_rfl
theorem h2_s_Clone_u (x : Int) (xs : List (Int)) : callBody (table [] []) br_s_Clone_u ⟨false, [], []⟩ fd_s_Clone_u [.ps 22 (.cons (.int .u64) .nil) (x :: xs)] [] (fun v m => some (v, m)) = cond (decide (0 < xs.length + 1)) (cond (decide ((0 + (xs.length + 1)) * 8 ≤ 140737488355328)) (some (.slw 0, [(0, .row 22 (.cons (.int .u64) .nil) ([] ++ (x :: xs)))])) none) none := by kernel_rfl
noncomputable def C_s_Clone_u : Con := ⟨args_s_Clone_u, mem_s_Clone_u, outs_s_Clone_u, F_s_Clone_u⟩
theorem ok_s_Clone_u : ConOK Try.prog 49 C_s_Clone_u := by
  have h0 : F_s_Clone_u ([], ()) () = some ((), ([], ())) := by simp [F_s_Clone_u]
  refine con_slc (e := 22) (r := (.cons (.int .u64) .nil)) (outs := outs_s_Clone_u) (F := F_s_Clone_u) ?_ ?_ ?_
  · intro o ho
    cases Option.some.inj (h0.symm.trans ho)
    exact callOK_nilrow 22 (.cons (.int .u64) .nil) (by decide) (call_of k_s_Clone_u fn_s_Clone_u ⟨false, [], []⟩ h0_s_Clone_u)
  · intro o ho
    cases Option.some.inj (h0.symm.trans ho)
    exact call_of k_s_Clone_u fn_s_Clone_u ⟨false, [], []⟩ h1_s_Clone_u
  · intro x xs o ho
    have h2 := h2_s_Clone_u x xs
    have ho : cond (decide ((x :: xs).length * 8 ≤ 140737488355328)) (some ((), (x :: xs, ()))) none = some o := ho
    cases hb : decide ((x :: xs).length * 8 ≤ 140737488355328) with
    | false => rw [hb] at ho; cases ho
    | true =>
    rw [hb] at ho
    cases ho
    refine call_of k_s_Clone_u fn_s_Clone_u ⟨false, [], []⟩ (h2.trans ?_)
    have hb2 : decide ((0 + (xs.length + 1)) * 8 ≤ 140737488355328) = true := by rw [Nat.zero_add]; exact hb
    show (cond (decide (0 < xs.length + 1)) (cond (decide ((0 + (xs.length + 1)) * 8 ≤ 140737488355328)) (some _) none) none : Option (SV × Mem)) = _
    rw [hb2, decide_eq_true (Nat.succ_pos _)]
    rfl

def an_vote_Most : Nat → LAnn := fun n => (find n [(4, ⟨4, [1, 5, 6, 11, 12, 13], [], [6, 8, 13, 14, 15, 16, 17, 18, 19, 20, 21, 22], [5, 6]⟩)]).getD ⟨0, [], [], [], []⟩
noncomputable def fd_vote_Most : FD := fdOf Try.prog an_vote_Most Try.f30
def br_vote_Most : FuncId → CC := fun f => ⟨([] : List Nat).contains f, (find f []).getD [], (find f []).getD []⟩
def rc_vote_Most : RC := ⟨true, [], []⟩
theorem hl_vote_Most_4 (F_vote_once : A_vote_once → M_vote_once → Option O_vote_once) (F_s_Contains_u : A_s_Contains_u → M_s_Contains_u → Option O_s_Contains_u) (x1 : List Int) (x2 : List Int) (x3 : Int) (x4 : List Int) (x5 : Int) (x6 : Int) {α : Type} (kn : St → Option α) (K : Out → St → Option α) : round (table [(47, ⟨args_vote_once, mem_vote_once, outs_vote_once, F_vote_once⟩), (51, ⟨args_s_Contains_u, mem_s_Contains_u, outs_s_Contains_u, F_s_Contains_u⟩)] []) br_vote_Most (an_vote_Most 4) (fd_vote_Most.loop 4) kn ⟨ltmps_vote_Most_4.svs (x1, (x2, (x3, (x4, (x5, (x6, ())))))), lmem_vote_Most_4.mem ()⟩ K = ltree_vote_Most_4 F_s_Contains_u x1 x2 x3 x4 x5 x6 (fun a b => kn ⟨ltmps_vote_Most_4.svs a, lmem_vote_Most_4.mem b⟩) (fun r => outLsRun louts_vote_Most_4 r K) := by kernel_rfl
noncomputable def D_vote_Most_4 : LCon := ⟨ltmps_vote_Most_4, lmem_vote_Most_4, louts_vote_Most_4, L_vote_Most_4⟩
theorem kl_vote_Most_4 : Known Try.prog fd_vote_Most [(47, C_vote_once), (51, C_s_Contains_u)] [] := known_of mixT (by kernel_rfl) ⟨ok_vote_once, ok_s_Contains_u, trivial⟩ trivial
theorem okl_vote_Most_4 : LConOK Try.prog (fd_vote_Most.loop 4) D_vote_Most_4 := lcon_of kl_vote_Most_4 (byRef := br_vote_Most) (lan := an_vote_Most 4) (id := 4) (by kernel_rfl) ltmps_vote_Most_4 lmem_vote_Most_4 louts_vote_Most_4 (fun a b kn kr => ltree_vote_Most_4 F_s_Contains_u a.1 a.2.1 a.2.2.1 a.2.2.2.1 a.2.2.2.2.1 a.2.2.2.2.2.1 kn kr) (fun a b => hl_vote_Most_4 F_vote_once F_s_Contains_u a.1 a.2.1 a.2.2.1 a.2.2.2.1 a.2.2.2.2.1 a.2.2.2.2.2.1 _ _) (fun a b kn kr => nl_vote_Most_4 F_s_Contains_u a.1 a.2.1 a.2.2.1 a.2.2.2.1 a.2.2.2.2.1 a.2.2.2.2.2.1 kn kr)
theorem h_vote_Most (F_vote_once : A_vote_once → M_vote_once → Option O_vote_once) (F_s_Contains_u : A_s_Contains_u → M_s_Contains_u → Option O_s_Contains_u) (L_vote_Most_4 : LT_vote_Most_4 → LM_vote_Most_4 → Option LO_vote_Most_4) (x1 : List Int) (x2 : List Int) {α : Type} (K : SV → Mem → Option α) : callBody (table [(47, ⟨args_vote_once, mem_vote_once, outs_vote_once, F_vote_once⟩), (51, ⟨args_s_Contains_u, mem_s_Contains_u, outs_s_Contains_u, F_s_Contains_u⟩)] [(4, ⟨ltmps_vote_Most_4, lmem_vote_Most_4, louts_vote_Most_4, L_vote_Most_4⟩)]) br_vote_Most rc_vote_Most fd_vote_Most (args_vote_Most.svs (x1, (x2, ()))) (mem_vote_Most.mem ()) K = tree_vote_Most F_vote_once L_vote_Most_4 x1 x2 (fun r => outsRun outs_vote_Most r K) := by kernel_rfl
noncomputable def C_vote_Most : Con := ⟨args_vote_Most, mem_vote_Most, outs_vote_Most, F_vote_Most⟩
theorem k_vote_Most : Known Try.prog fd_vote_Most [(47, C_vote_once), (51, C_s_Contains_u)] [(4, D_vote_Most_4)] := known_of mixT (by kernel_rfl) ⟨ok_vote_once, ok_s_Contains_u, trivial⟩ ⟨okl_vote_Most_4, trivial⟩
theorem fn_vote_Most : FnOK Try.prog an_vote_Most 30 Try.f30 fd_vote_Most := fnOK (by kernel_rfl) (by kernel_rfl) (by kernel_rfl)
theorem ok_vote_Most : ConOK Try.prog 30 C_vote_Most := con_of k_vote_Most (byRef := br_vote_Most) fn_vote_Most rc_vote_Most args_vote_Most mem_vote_Most outs_vote_Most (fun a b K => tree_vote_Most F_vote_once L_vote_Most_4 a.1 a.2.1 K) (fun a b => h_vote_Most F_vote_once F_s_Contains_u L_vote_Most_4 a.1 a.2.1 _) (fun a b K => n_vote_Most F_vote_once L_vote_Most_4 a.1 a.2.1 K)

def an_vote_Change_1 : Nat → LAnn := fun n => (find n []).getD ⟨0, [], [], [], []⟩
noncomputable def fd_vote_Change_1 : FD := fdOf Try.prog an_vote_Change_1 Try.f50
def br_vote_Change_1 : FuncId → CC := fun f => ⟨([] : List Nat).contains f, (find f []).getD [], (find f []).getD []⟩
def rc_vote_Change_1 : RC := ⟨true, [], []⟩
theorem h_vote_Change_1 (x1 : Int) (x2 : Int) {α : Type} (K : SV → Mem → Option α) : callBody (table [] []) br_vote_Change_1 rc_vote_Change_1 fd_vote_Change_1 (args_vote_Change_1.svs (x1, ())) (mem_vote_Change_1.mem ((x2, ()), ())) K = tree_vote_Change_1 x1 x2 (fun r => outsRun routs_vote_Change_1 r K) := by kernel_rfl
noncomputable def C_vote_Change_1 : Con := ⟨args_vote_Change_1, mem_vote_Change_1, outs_vote_Change_1, F_vote_Change_1⟩
theorem k_vote_Change_1 : Known Try.prog fd_vote_Change_1 [] [] := known_of mixT (by kernel_rfl) trivial trivial
theorem fn_vote_Change_1 : FnOK Try.prog an_vote_Change_1 50 Try.f50 fd_vote_Change_1 := fnOK (by kernel_rfl) (by kernel_rfl) (by kernel_rfl)
noncomputable def CR_vote_Change_1 : Con := ⟨args_vote_Change_1, mem_vote_Change_1, routs_vote_Change_1, R_vote_Change_1⟩
theorem okr_vote_Change_1 : ConOK Try.prog 50 CR_vote_Change_1 := con_of k_vote_Change_1 (byRef := br_vote_Change_1) fn_vote_Change_1 rc_vote_Change_1 args_vote_Change_1 mem_vote_Change_1 routs_vote_Change_1 (fun a b K => tree_vote_Change_1 a.1 b.1.1 K) (fun a b => h_vote_Change_1 a.1 b.1.1 _) (fun a b K => n_vote_Change_1 a.1 b.1.1 K)
theorem ok_vote_Change_1 : ConOK Try.prog 50 C_vote_Change_1 := con_reads okr_vote_Change_1 (by rfl) reads_vote_Change_1

def an_s_IndexFunc_u : Nat → LAnn := fun n => (find n [(2, ⟨2, [0, 1, 7, 8], [], [4, 5, 8, 9, 10, 11, 12, 13, 14, 15, 16, 17, 18], [4]⟩)]).getD ⟨0, [], [], [], []⟩
noncomputable def fd_s_IndexFunc_u : FD := fdOf Try.prog an_s_IndexFunc_u Try.f59
def br_s_IndexFunc_u : FuncId → CC := fun f => ⟨([50] : List Nat).contains f, (find f [(50, [0, 1, 2, 3, 4, 5, 6, 7, 8, 9, 10, 11])]).getD [], (find f []).getD []⟩
def rc_s_IndexFunc_u : RC := ⟨true, [], []⟩
theorem hl_s_IndexFunc_u_2 (F_vote_Change_1 : A_vote_Change_1 → M_vote_Change_1 → Option O_vote_Change_1) (x1 : List Int) (x2 : Int) (x3 : Int) (x4 : Int) {α : Type} (kn : St → Option α) (K : Out → St → Option α) : round (table [(50, ⟨args_vote_Change_1, mem_vote_Change_1, outs_vote_Change_1, F_vote_Change_1⟩)] []) br_s_IndexFunc_u (an_s_IndexFunc_u 2) (fd_s_IndexFunc_u.loop 2) kn ⟨ltmps_s_IndexFunc_u_2.svs (x1, ((), (x2, (x3, ())))), lmem_s_IndexFunc_u_2.mem ((x4, ()), ())⟩ K = ltree_s_IndexFunc_u_2 F_vote_Change_1 x1 x2 x3 x4 (fun a b => kn ⟨ltmps_s_IndexFunc_u_2.svs a, lmem_s_IndexFunc_u_2.mem b⟩) (fun r => outLsRun louts_s_IndexFunc_u_2 r K) := by kernel_rfl
noncomputable def D_s_IndexFunc_u_2 : LCon := ⟨ltmps_s_IndexFunc_u_2, lmem_s_IndexFunc_u_2, louts_s_IndexFunc_u_2, L_s_IndexFunc_u_2⟩
theorem kl_s_IndexFunc_u_2 : Known Try.prog fd_s_IndexFunc_u [(50, C_vote_Change_1)] [] := known_of mixT (by kernel_rfl) ⟨ok_vote_Change_1, trivial⟩ trivial
theorem okl_s_IndexFunc_u_2 : LConOK Try.prog (fd_s_IndexFunc_u.loop 2) D_s_IndexFunc_u_2 := lcon_of kl_s_IndexFunc_u_2 (byRef := br_s_IndexFunc_u) (lan := an_s_IndexFunc_u 2) (id := 2) (by kernel_rfl) ltmps_s_IndexFunc_u_2 lmem_s_IndexFunc_u_2 louts_s_IndexFunc_u_2 (fun a b kn kr => ltree_s_IndexFunc_u_2 F_vote_Change_1 a.1 a.2.2.1 a.2.2.2.1 b.1.1 kn kr) (fun a b => hl_s_IndexFunc_u_2 F_vote_Change_1 a.1 a.2.2.1 a.2.2.2.1 b.1.1 _ _) (fun a b kn kr => nl_s_IndexFunc_u_2 F_vote_Change_1 a.1 a.2.2.1 a.2.2.2.1 b.1.1 kn kr)
theorem h_s_IndexFunc_u (F_vote_Change_1 : A_vote_Change_1 → M_vote_Change_1 → Option O_vote_Change_1) (L_s_IndexFunc_u_2 : LT_s_IndexFunc_u_2 → LM_s_IndexFunc_u_2 → Option LO_s_IndexFunc_u_2) (x1 : List Int) (x2 : Int) {α : Type} (K : SV → Mem → Option α) : callBody (table [(50, ⟨args_vote_Change_1, mem_vote_Change_1, outs_vote_Change_1, F_vote_Change_1⟩)] [(2, ⟨ltmps_s_IndexFunc_u_2, lmem_s_IndexFunc_u_2, louts_s_IndexFunc_u_2, L_s_IndexFunc_u_2⟩)]) br_s_IndexFunc_u rc_s_IndexFunc_u fd_s_IndexFunc_u (args_s_IndexFunc_u.svs (x1, ((), ()))) (mem_s_IndexFunc_u.mem ((x2, ()), ())) K = tree_s_IndexFunc_u L_s_IndexFunc_u_2 x1 x2 (fun r => outsRun routs_s_IndexFunc_u r K) := by kernel_rfl
noncomputable def C_s_IndexFunc_u : Con := ⟨args_s_IndexFunc_u, mem_s_IndexFunc_u, outs_s_IndexFunc_u, F_s_IndexFunc_u⟩
theorem k_s_IndexFunc_u : Known Try.prog fd_s_IndexFunc_u [(50, C_vote_Change_1)] [(2, D_s_IndexFunc_u_2)] := known_of mixT (by kernel_rfl) ⟨ok_vote_Change_1, trivial⟩ ⟨okl_s_IndexFunc_u_2, trivial⟩
theorem fn_s_IndexFunc_u : FnOK Try.prog an_s_IndexFunc_u 59 Try.f59 fd_s_IndexFunc_u := fnOK (by kernel_rfl) (by kernel_rfl) (by kernel_rfl)
noncomputable def CR_s_IndexFunc_u : Con := ⟨args_s_IndexFunc_u, mem_s_IndexFunc_u, routs_s_IndexFunc_u, R_s_IndexFunc_u⟩
theorem okr_s_IndexFunc_u : ConOK Try.prog 59 CR_s_IndexFunc_u := con_of k_s_IndexFunc_u (byRef := br_s_IndexFunc_u) fn_s_IndexFunc_u rc_s_IndexFunc_u args_s_IndexFunc_u mem_s_IndexFunc_u routs_s_IndexFunc_u (fun a b K => tree_s_IndexFunc_u L_s_IndexFunc_u_2 a.1 b.1.1 K) (fun a b => h_s_IndexFunc_u F_vote_Change_1 L_s_IndexFunc_u_2 a.1 b.1.1 _) (fun a b K => n_s_IndexFunc_u L_s_IndexFunc_u_2 a.1 b.1.1 K)
theorem ok_s_IndexFunc_u : ConOK Try.prog 59 C_s_IndexFunc_u := con_reads okr_s_IndexFunc_u (by rfl) reads_s_IndexFunc_u

def an_s_DeleteFunc_u : Nat → LAnn := fun n => (find n [(5, ⟨5, [0, 1, 5, 6], [], [5, 6, 7, 16, 17, 18, 19, 20, 21, 22, 23, 24, 25, 26, 27, 28, 29, 30, 31, 32, 33, 34, 35], [0, 5]⟩)]).getD ⟨0, [], [], [], []⟩
noncomputable def fd_s_DeleteFunc_u : FD := fdOf Try.prog an_s_DeleteFunc_u Try.f48
def br_s_DeleteFunc_u : FuncId → CC := fun f => ⟨([50, 59] : List Nat).contains f, (find f [(50, [0, 1, 2, 3, 4, 5, 6, 7, 8, 9, 10, 11]), (59, [0])]).getD [], (find f []).getD []⟩
def rc_s_DeleteFunc_u : RC := ⟨false, [], [(0, 0, 0)]⟩
theorem hl_s_DeleteFunc_u_5 (F_s_IndexFunc_u : A_s_IndexFunc_u → M_s_IndexFunc_u → Option O_s_IndexFunc_u) (F_vote_Change_1 : A_vote_Change_1 → M_vote_Change_1 → Option O_vote_Change_1) (x1 : Int) (x2 : Int) (x3 : List Int) (x4 : Int) {α : Type} (kn : St → Option α) (K : Out → St → Option α) : round (table [(59, ⟨args_s_IndexFunc_u, mem_s_IndexFunc_u, outs_s_IndexFunc_u, F_s_IndexFunc_u⟩), (50, ⟨args_vote_Change_1, mem_vote_Change_1, outs_vote_Change_1, F_vote_Change_1⟩)] []) br_s_DeleteFunc_u (an_s_DeleteFunc_u 5) (fd_s_DeleteFunc_u.loop 5) kn ⟨ltmps_s_DeleteFunc_u_5.svs ((), (x1, (x2, ()))), lmem_s_DeleteFunc_u_5.mem (x3, ((x4, ()), ()))⟩ K = ltree_s_DeleteFunc_u_5 F_vote_Change_1 x1 x2 x3 x4 (fun a b => kn ⟨ltmps_s_DeleteFunc_u_5.svs a, lmem_s_DeleteFunc_u_5.mem b⟩) (fun r => outLsRun louts_s_DeleteFunc_u_5 r K) := by kernel_rfl
noncomputable def D_s_DeleteFunc_u_5 : LCon := ⟨ltmps_s_DeleteFunc_u_5, lmem_s_DeleteFunc_u_5, louts_s_DeleteFunc_u_5, L_s_DeleteFunc_u_5⟩
theorem kl_s_DeleteFunc_u_5 : Known Try.prog fd_s_DeleteFunc_u [(59, C_s_IndexFunc_u), (50, C_vote_Change_1)] [] := known_of mixT (by kernel_rfl) ⟨ok_s_IndexFunc_u, ok_vote_Change_1, trivial⟩ trivial
theorem okl_s_DeleteFunc_u_5 : LConOK Try.prog (fd_s_DeleteFunc_u.loop 5) D_s_DeleteFunc_u_5 := lcon_of kl_s_DeleteFunc_u_5 (byRef := br_s_DeleteFunc_u) (lan := an_s_DeleteFunc_u 5) (id := 5) (by kernel_rfl) ltmps_s_DeleteFunc_u_5 lmem_s_DeleteFunc_u_5 louts_s_DeleteFunc_u_5 (fun a b kn kr => ltree_s_DeleteFunc_u_5 F_vote_Change_1 a.2.1 a.2.2.1 b.1 b.2.1.1 kn kr) (fun a b => hl_s_DeleteFunc_u_5 F_s_IndexFunc_u F_vote_Change_1 a.2.1 a.2.2.1 b.1 b.2.1.1 _ _) (fun a b kn kr => nl_s_DeleteFunc_u_5 F_vote_Change_1 a.2.1 a.2.2.1 b.1 b.2.1.1 kn kr)
theorem h_s_DeleteFunc_u (F_s_IndexFunc_u : A_s_IndexFunc_u → M_s_IndexFunc_u → Option O_s_IndexFunc_u) (F_vote_Change_1 : A_vote_Change_1 → M_vote_Change_1 → Option O_vote_Change_1) (L_s_DeleteFunc_u_5 : LT_s_DeleteFunc_u_5 → LM_s_DeleteFunc_u_5 → Option LO_s_DeleteFunc_u_5) (x1 : List Int) (x2 : Int) {α : Type} (K : SV → Mem → Option α) : callBody (table [(59, ⟨args_s_IndexFunc_u, mem_s_IndexFunc_u, outs_s_IndexFunc_u, F_s_IndexFunc_u⟩), (50, ⟨args_vote_Change_1, mem_vote_Change_1, outs_vote_Change_1, F_vote_Change_1⟩)] [(5, ⟨ltmps_s_DeleteFunc_u_5, lmem_s_DeleteFunc_u_5, louts_s_DeleteFunc_u_5, L_s_DeleteFunc_u_5⟩)]) br_s_DeleteFunc_u rc_s_DeleteFunc_u fd_s_DeleteFunc_u (args_s_DeleteFunc_u.svs ((), ())) (mem_s_DeleteFunc_u.mem (x1, ((x2, ()), ()))) K = tree_s_DeleteFunc_u F_s_IndexFunc_u L_s_DeleteFunc_u_5 x1 x2 (fun r => outsRun outs_s_DeleteFunc_u r K) := by kernel_rfl
noncomputable def C_s_DeleteFunc_u : Con := ⟨args_s_DeleteFunc_u, mem_s_DeleteFunc_u, outs_s_DeleteFunc_u, F_s_DeleteFunc_u⟩
theorem k_s_DeleteFunc_u : Known Try.prog fd_s_DeleteFunc_u [(59, C_s_IndexFunc_u), (50, C_vote_Change_1)] [(5, D_s_DeleteFunc_u_5)] := known_of mixT (by kernel_rfl) ⟨ok_s_IndexFunc_u, ok_vote_Change_1, trivial⟩ ⟨okl_s_DeleteFunc_u_5, trivial⟩
theorem fn_s_DeleteFunc_u : FnOK Try.prog an_s_DeleteFunc_u 48 Try.f48 fd_s_DeleteFunc_u := fnOK (by kernel_rfl) (by kernel_rfl) (by kernel_rfl)
theorem ok_s_DeleteFunc_u : ConOK Try.prog 48 C_s_DeleteFunc_u := con_of k_s_DeleteFunc_u (byRef := br_s_DeleteFunc_u) fn_s_DeleteFunc_u rc_s_DeleteFunc_u args_s_DeleteFunc_u mem_s_DeleteFunc_u outs_s_DeleteFunc_u (fun a b K => tree_s_DeleteFunc_u F_s_IndexFunc_u L_s_DeleteFunc_u_5 b.1 b.2.1.1 K) (fun a b => h_s_DeleteFunc_u F_s_IndexFunc_u F_vote_Change_1 L_s_DeleteFunc_u_5 b.1 b.2.1.1 _) (fun a b K => n_s_DeleteFunc_u F_s_IndexFunc_u L_s_DeleteFunc_u_5 b.1 b.2.1.1 K)

def an_vote_Change : Nat → LAnn := fun n => (find n []).getD ⟨0, [], [], [], []⟩
noncomputable def fd_vote_Change : FD := fdOf Try.prog an_vote_Change Try.f28
def br_vote_Change : FuncId → CC := fun f => ⟨([48, 50] : List Nat).contains f, (find f [(50, [0, 1, 2, 3, 4, 5, 6, 7, 8, 9, 10, 11])]).getD [], (find f []).getD []⟩
def rc_vote_Change : RC := ⟨true, [], []⟩
theorem h_vote_Change (F_vote_once : A_vote_once → M_vote_once → Option O_vote_once) (F_s_Clone_u : A_s_Clone_u → M_s_Clone_u → Option O_s_Clone_u) (F_vote_Change_1 : A_vote_Change_1 → M_vote_Change_1 → Option O_vote_Change_1) (F_s_DeleteFunc_u : A_s_DeleteFunc_u → M_s_DeleteFunc_u → Option O_s_DeleteFunc_u) (x1 : List Int) (x2 : Int) {α : Type} (K : SV → Mem → Option α) : callBody (table [(47, ⟨args_vote_once, mem_vote_once, outs_vote_once, F_vote_once⟩), (49, ⟨args_s_Clone_u, mem_s_Clone_u, outs_s_Clone_u, F_s_Clone_u⟩), (50, ⟨args_vote_Change_1, mem_vote_Change_1, outs_vote_Change_1, F_vote_Change_1⟩), (48, ⟨args_s_DeleteFunc_u, mem_s_DeleteFunc_u, outs_s_DeleteFunc_u, F_s_DeleteFunc_u⟩)] []) br_vote_Change rc_vote_Change fd_vote_Change (args_vote_Change.svs (x1, (x2, ()))) (mem_vote_Change.mem ()) K = tree_vote_Change F_vote_once F_s_Clone_u F_s_DeleteFunc_u x1 x2 (fun r => outsRun outs_vote_Change r K) := by kernel_rfl
noncomputable def C_vote_Change : Con := ⟨args_vote_Change, mem_vote_Change, outs_vote_Change, F_vote_Change⟩
theorem k_vote_Change : Known Try.prog fd_vote_Change [(47, C_vote_once), (49, C_s_Clone_u), (50, C_vote_Change_1), (48, C_s_DeleteFunc_u)] [] := known_of mixT (by kernel_rfl) ⟨ok_vote_once, ok_s_Clone_u, ok_vote_Change_1, ok_s_DeleteFunc_u, trivial⟩ trivial
theorem fn_vote_Change : FnOK Try.prog an_vote_Change 28 Try.f28 fd_vote_Change := fnOK (by kernel_rfl) (by kernel_rfl) (by kernel_rfl)
theorem ok_vote_Change : ConOK Try.prog 28 C_vote_Change := con_of k_vote_Change (byRef := br_vote_Change) fn_vote_Change rc_vote_Change args_vote_Change mem_vote_Change outs_vote_Change (fun a b K => tree_vote_Change F_vote_once F_s_Clone_u F_s_DeleteFunc_u a.1 a.2.1 K) (fun a b => h_vote_Change F_vote_once F_s_Clone_u F_vote_Change_1 F_s_DeleteFunc_u a.1 a.2.1 _) (fun a b K => n_vote_Change F_vote_once F_s_Clone_u F_s_DeleteFunc_u a.1 a.2.1 K)

def an_vote_Seen : Nat → LAnn := fun n => (find n []).getD ⟨0, [], [], [], []⟩
noncomputable def fd_vote_Seen : FD := fdOf Try.prog an_vote_Seen Try.f26
def br_vote_Seen : FuncId → CC := fun f => ⟨([] : List Nat).contains f, (find f []).getD [], (find f []).getD []⟩
def rc_vote_Seen : RC := ⟨true, [], []⟩
theorem h_vote_Seen (x1 : Int) (x2 : Int) (x3 : Int) {α : Type} (K : SV → Mem → Option α) : callBody (table [] []) br_vote_Seen rc_vote_Seen fd_vote_Seen (args_vote_Seen.svs ((x1, (x2, ())), (x3, ()))) (mem_vote_Seen.mem ()) K = tree_vote_Seen x1 x2 x3 (fun r => outsRun outs_vote_Seen r K) := by kernel_rfl
noncomputable def C_vote_Seen : Con := ⟨args_vote_Seen, mem_vote_Seen, outs_vote_Seen, F_vote_Seen⟩
theorem k_vote_Seen : Known Try.prog fd_vote_Seen [] [] := known_of mixT (by kernel_rfl) trivial trivial
theorem fn_vote_Seen : FnOK Try.prog an_vote_Seen 26 Try.f26 fd_vote_Seen := fnOK (by kernel_rfl) (by kernel_rfl) (by kernel_rfl)
theorem ok_vote_Seen : ConOK Try.prog 26 C_vote_Seen := con_of k_vote_Seen (byRef := br_vote_Seen) fn_vote_Seen rc_vote_Seen args_vote_Seen mem_vote_Seen outs_vote_Seen (fun a b K => tree_vote_Seen a.1.1 a.1.2.1 a.2.1 K) (fun a b => h_vote_Seen a.1.1 a.1.2.1 a.2.1 _) (fun a b K => n_vote_Seen a.1.1 a.1.2.1 a.2.1 K)

def an_vote_Ask : Nat → LAnn := fun n => (find n []).getD ⟨0, [], [], [], []⟩
noncomputable def fd_vote_Ask : FD := fdOf Try.prog an_vote_Ask Try.f24
def br_vote_Ask : FuncId → CC := fun f => ⟨([] : List Nat).contains f, (find f []).getD [], (find f []).getD []⟩
def rc_vote_Ask : RC := ⟨true, [], []⟩
theorem h_vote_Ask (F_vote_Seen : A_vote_Seen → M_vote_Seen → Option O_vote_Seen) (F_rlog_Newer : A_rlog_Newer → M_rlog_Newer → Option O_rlog_Newer) (x1 : Int) (x2 : Int) (x3 : Int) (x4 : Int) (x5 : List (Int × Int × ByteArray)) (x6 : Int) (x7 : Int) (x8 : Int) (x9 : Int) {α : Type} (K : SV → Mem → Option α) : callBody (table [(26, ⟨args_vote_Seen, mem_vote_Seen, outs_vote_Seen, F_vote_Seen⟩), (45, ⟨args_rlog_Newer, mem_rlog_Newer, outs_rlog_Newer, F_rlog_Newer⟩)] []) br_vote_Ask rc_vote_Ask fd_vote_Ask (args_vote_Ask.svs ((x1, (x2, ())), ((x3, (x4, (x5, ()))), (x6, (x7, (x8, (x9, ()))))))) (mem_vote_Ask.mem ()) K = tree_vote_Ask F_vote_Seen F_rlog_Newer x1 x2 x3 x4 x5 x6 x7 x8 x9 (fun r => outsRun outs_vote_Ask r K) := by kernel_rfl
noncomputable def C_vote_Ask : Con := ⟨args_vote_Ask, mem_vote_Ask, outs_vote_Ask, F_vote_Ask⟩
theorem k_vote_Ask : Known Try.prog fd_vote_Ask [(26, C_vote_Seen), (45, C_rlog_Newer)] [] := known_of mixT (by kernel_rfl) ⟨ok_vote_Seen, ok_rlog_Newer, trivial⟩ trivial
theorem fn_vote_Ask : FnOK Try.prog an_vote_Ask 24 Try.f24 fd_vote_Ask := fnOK (by kernel_rfl) (by kernel_rfl) (by kernel_rfl)
theorem ok_vote_Ask : ConOK Try.prog 24 C_vote_Ask := con_of k_vote_Ask (byRef := br_vote_Ask) fn_vote_Ask rc_vote_Ask args_vote_Ask mem_vote_Ask outs_vote_Ask (fun a b K => tree_vote_Ask F_vote_Seen F_rlog_Newer a.1.1 a.1.2.1 a.2.1.1 a.2.1.2.1 a.2.1.2.2.1 a.2.2.1 a.2.2.2.1 a.2.2.2.2.1 a.2.2.2.2.2.1 K) (fun a b => h_vote_Ask F_vote_Seen F_rlog_Newer a.1.1 a.1.2.1 a.2.1.1 a.2.1.2.1 a.2.1.2.2.1 a.2.2.1 a.2.2.2.1 a.2.2.2.2.1 a.2.2.2.2.2.1 _) (fun a b K => n_vote_Ask F_vote_Seen F_rlog_Newer a.1.1 a.1.2.1 a.2.1.1 a.2.1.2.1 a.2.1.2.2.1 a.2.2.1 a.2.2.2.1 a.2.2.2.2.1 a.2.2.2.2.2.1 K)

end Go.Proofs.Ytjhaidbfahobmaa.S2
