/- The program's functions come to their plain forms, by program. -/
import Derived.Test.YtjhaidbfahobmaaGrlog
import Derived.Test.YtjhaidbfahobmaaHbase
set_option maxRecDepth 100000
set_option maxHeartbeats 0
set_option linter.unusedVariables false
set_option linter.unusedSimpArgs false
namespace Go.Proofs.Ytjhaidbfahobmaa.S2
open Go
def an_rlog_Last : Nat → LAnn := fun n => (find n []).getD ⟨0, [], [], [], []⟩
noncomputable def fd_rlog_Last : FD := fdOf Try.prog an_rlog_Last Try.f35
def br_rlog_Last : FuncId → CC := fun f => ⟨([] : List Nat).contains f, (find f []).getD [], (find f []).getD []⟩
def rc_rlog_Last : RC := ⟨true, [], []⟩
theorem h_rlog_Last (x1 : Int) (x2 : Int) (x3 : List (Int × Int × ByteArray)) {α : Type} (K : SV → Mem → Option α) : callBody (table [] []) br_rlog_Last rc_rlog_Last fd_rlog_Last (args_rlog_Last.svs ((x1, (x2, (x3, ()))), ())) (mem_rlog_Last.mem ()) K = tree_rlog_Last x1 x2 x3 (fun r => outsRun outs_rlog_Last r K) := by kernel_rfl
noncomputable def C_rlog_Last : Con := ⟨args_rlog_Last, mem_rlog_Last, outs_rlog_Last, F_rlog_Last⟩
theorem k_rlog_Last : Known Try.prog fd_rlog_Last [] [] := known_of mixT (by kernel_rfl) trivial trivial
theorem fn_rlog_Last : FnOK Try.prog an_rlog_Last 35 Try.f35 fd_rlog_Last := fnOK (by kernel_rfl) (by kernel_rfl) (by kernel_rfl)
theorem ok_rlog_Last : ConOK Try.prog 35 C_rlog_Last := con_of k_rlog_Last (byRef := br_rlog_Last) fn_rlog_Last rc_rlog_Last args_rlog_Last mem_rlog_Last outs_rlog_Last (fun a b K => tree_rlog_Last a.1.1 a.1.2.1 a.1.2.2.1 K) (fun a b => h_rlog_Last a.1.1 a.1.2.1 a.1.2.2.1 _) (fun a b K => n_rlog_Last a.1.1 a.1.2.1 a.1.2.2.1 K)

def an_rlog_Entry : Nat → LAnn := fun n => (find n []).getD ⟨0, [], [], [], []⟩
noncomputable def fd_rlog_Entry : FD := fdOf Try.prog an_rlog_Entry Try.f44
def br_rlog_Entry : FuncId → CC := fun f => ⟨([] : List Nat).contains f, (find f []).getD [], (find f []).getD []⟩
def rc_rlog_Entry : RC := ⟨true, [], []⟩
theorem h_rlog_Entry (x1 : Int) (x2 : Int) (x3 : List (Int × Int × ByteArray)) (x4 : Int) {α : Type} (K : SV → Mem → Option α) : callBody (table [] []) br_rlog_Entry rc_rlog_Entry fd_rlog_Entry (args_rlog_Entry.svs ((x1, (x2, (x3, ()))), (x4, ()))) (mem_rlog_Entry.mem ()) K = tree_rlog_Entry x1 x2 x3 x4 (fun r => outsRun outs_rlog_Entry r K) := by kernel_rfl
noncomputable def C_rlog_Entry : Con := ⟨args_rlog_Entry, mem_rlog_Entry, outs_rlog_Entry, F_rlog_Entry⟩
theorem k_rlog_Entry : Known Try.prog fd_rlog_Entry [] [] := known_of mixT (by kernel_rfl) trivial trivial
theorem fn_rlog_Entry : FnOK Try.prog an_rlog_Entry 44 Try.f44 fd_rlog_Entry := fnOK (by kernel_rfl) (by kernel_rfl) (by kernel_rfl)
theorem ok_rlog_Entry : ConOK Try.prog 44 C_rlog_Entry := con_of k_rlog_Entry (byRef := br_rlog_Entry) fn_rlog_Entry rc_rlog_Entry args_rlog_Entry mem_rlog_Entry outs_rlog_Entry (fun a b K => tree_rlog_Entry a.1.1 a.1.2.1 a.1.2.2.1 a.2.1 K) (fun a b => h_rlog_Entry a.1.1 a.1.2.1 a.1.2.2.1 a.2.1 _) (fun a b K => n_rlog_Entry a.1.1 a.1.2.1 a.1.2.2.1 a.2.1 K)

def an_rlog_Term : Nat → LAnn := fun n => (find n []).getD ⟨0, [], [], [], []⟩
noncomputable def fd_rlog_Term : FD := fdOf Try.prog an_rlog_Term Try.f21
def br_rlog_Term : FuncId → CC := fun f => ⟨([] : List Nat).contains f, (find f []).getD [], (find f []).getD []⟩
def rc_rlog_Term : RC := ⟨true, [], []⟩
theorem h_rlog_Term (F_rlog_Entry : A_rlog_Entry → M_rlog_Entry → Option O_rlog_Entry) (x1 : Int) (x2 : Int) (x3 : List (Int × Int × ByteArray)) (x4 : Int) {α : Type} (K : SV → Mem → Option α) : callBody (table [(44, ⟨args_rlog_Entry, mem_rlog_Entry, outs_rlog_Entry, F_rlog_Entry⟩)] []) br_rlog_Term rc_rlog_Term fd_rlog_Term (args_rlog_Term.svs ((x1, (x2, (x3, ()))), (x4, ()))) (mem_rlog_Term.mem ()) K = tree_rlog_Term F_rlog_Entry x1 x2 x3 x4 (fun r => outsRun outs_rlog_Term r K) := by kernel_rfl
noncomputable def C_rlog_Term : Con := ⟨args_rlog_Term, mem_rlog_Term, outs_rlog_Term, F_rlog_Term⟩
theorem k_rlog_Term : Known Try.prog fd_rlog_Term [(44, C_rlog_Entry)] [] := known_of mixT (by kernel_rfl) ⟨ok_rlog_Entry, trivial⟩ trivial
theorem fn_rlog_Term : FnOK Try.prog an_rlog_Term 21 Try.f21 fd_rlog_Term := fnOK (by kernel_rfl) (by kernel_rfl) (by kernel_rfl)
theorem ok_rlog_Term : ConOK Try.prog 21 C_rlog_Term := con_of k_rlog_Term (byRef := br_rlog_Term) fn_rlog_Term rc_rlog_Term args_rlog_Term mem_rlog_Term outs_rlog_Term (fun a b K => tree_rlog_Term F_rlog_Entry a.1.1 a.1.2.1 a.1.2.2.1 a.2.1 K) (fun a b => h_rlog_Term F_rlog_Entry a.1.1 a.1.2.1 a.1.2.2.1 a.2.1 _) (fun a b K => n_rlog_Term F_rlog_Entry a.1.1 a.1.2.1 a.1.2.2.1 a.2.1 K)

def an_s_Grow_aE : Nat → LAnn := fun n => (find n []).getD ⟨0, [], [], [], []⟩
noncomputable def fd_s_Grow_aE : FD := fdOf Try.prog an_s_Grow_aE Try.f61
def br_s_Grow_aE : FuncId → CC := fun f => ⟨([] : List Nat).contains f, (find f []).getD [], (find f []).getD []⟩
def rc_s_Grow_aE : RC := ⟨false, [], []⟩
theorem h_s_Grow_aE (x1 : Int) {α : Type} (K : SV → Mem → Option α) : callBody (table [] []) br_s_Grow_aE rc_s_Grow_aE fd_s_Grow_aE (args_s_Grow_aE.svs (x1, ())) (mem_s_Grow_aE.mem ()) K = tree_s_Grow_aE x1 (fun r => outsRun outs_s_Grow_aE r K) := by kernel_rfl
noncomputable def C_s_Grow_aE : Con := ⟨args_s_Grow_aE, mem_s_Grow_aE, outs_s_Grow_aE, F_s_Grow_aE⟩
theorem k_s_Grow_aE : Known Try.prog fd_s_Grow_aE [] [] := known_of mixT (by kernel_rfl) trivial trivial
theorem fn_s_Grow_aE : FnOK Try.prog an_s_Grow_aE 61 Try.f61 fd_s_Grow_aE := fnOK (by kernel_rfl) (by kernel_rfl) (by kernel_rfl)
theorem ok_s_Grow_aE : ConOK Try.prog 61 C_s_Grow_aE := con_of k_s_Grow_aE (byRef := br_s_Grow_aE) fn_s_Grow_aE rc_s_Grow_aE args_s_Grow_aE mem_s_Grow_aE outs_s_Grow_aE (fun a b K => tree_s_Grow_aE a.1 K) (fun a b => h_s_Grow_aE a.1 _) (fun a b K => n_s_Grow_aE a.1 K)

def an_s_Concat_aE : Nat → LAnn := fun n => (find n [(11, ⟨11, [6, 25, 26, 27], [(.slot 6, 506, 70, (.cons (.int .u64) (.cons (.int .i64) (.cons .str .nil))))], [6, 8, 27, 28, 29, 30, 31, 32, 33, 34], [6]⟩), (3, ⟨3, [0, 3, 9, 10, 11], [], [3, 5, 11, 12, 13, 14, 15, 16, 17, 18, 19, 20, 21, 22], [0, 3]⟩)]).getD ⟨0, [], [], [], []⟩
noncomputable def fd_s_Concat_aE : FD := fdOf Try.prog an_s_Concat_aE Try.f54
def br_s_Concat_aE : FuncId → CC := fun f => ⟨([] : List Nat).contains f, (find f []).getD [], (find f []).getD []⟩
def rc_s_Concat_aE : RC := ⟨true, [], []⟩
theorem hl_s_Concat_aE_3 (F_s_Grow_aE : A_s_Grow_aE → M_s_Grow_aE → Option O_s_Grow_aE) (x1 : List ((List (Int × Int × ByteArray)))) (x2 : Int) (x3 : List ((List (Int × Int × ByteArray)))) (x4 : Int) (x5 : Int) {α : Type} (kn : St → Option α) (K : Out → St → Option α) : round (table [(61, ⟨args_s_Grow_aE, mem_s_Grow_aE, outs_s_Grow_aE, F_s_Grow_aE⟩)] []) br_s_Concat_aE (an_s_Concat_aE 3) (fd_s_Concat_aE.loop 3) kn ⟨ltmps_s_Concat_aE_3.svs (x1, (x2, (x3, (x4, (x5, ()))))), lmem_s_Concat_aE_3.mem ()⟩ K = ltree_s_Concat_aE_3 x1 x2 x3 x4 x5 (fun a b => kn ⟨ltmps_s_Concat_aE_3.svs a, lmem_s_Concat_aE_3.mem b⟩) (fun r => outLsRun louts_s_Concat_aE_3 r K) := by kernel_rfl
noncomputable def D_s_Concat_aE_3 : LCon := ⟨ltmps_s_Concat_aE_3, lmem_s_Concat_aE_3, louts_s_Concat_aE_3, L_s_Concat_aE_3⟩
theorem kl_s_Concat_aE_3 : Known Try.prog fd_s_Concat_aE [(61, C_s_Grow_aE)] [] := known_of mixT (by kernel_rfl) ⟨ok_s_Grow_aE, trivial⟩ trivial
theorem okl_s_Concat_aE_3 : LConOK Try.prog (fd_s_Concat_aE.loop 3) D_s_Concat_aE_3 := lcon_of kl_s_Concat_aE_3 (byRef := br_s_Concat_aE) (lan := an_s_Concat_aE 3) (id := 3) (by kernel_rfl) ltmps_s_Concat_aE_3 lmem_s_Concat_aE_3 louts_s_Concat_aE_3 (fun a b kn kr => ltree_s_Concat_aE_3 a.1 a.2.1 a.2.2.1 a.2.2.2.1 a.2.2.2.2.1 kn kr) (fun a b => hl_s_Concat_aE_3 F_s_Grow_aE a.1 a.2.1 a.2.2.1 a.2.2.2.1 a.2.2.2.2.1 _ _) (fun a b kn kr => nl_s_Concat_aE_3 a.1 a.2.1 a.2.2.1 a.2.2.2.1 a.2.2.2.2.1 kn kr)
theorem hl_s_Concat_aE_11 (F_s_Grow_aE : A_s_Grow_aE → M_s_Grow_aE → Option O_s_Grow_aE) (L_s_Concat_aE_3 : LT_s_Concat_aE_3 → LM_s_Concat_aE_3 → Option LO_s_Concat_aE_3) (x1 : List ((List (Int × Int × ByteArray)))) (x2 : Int) (x3 : Int) (x4 : List (Int × Int × ByteArray)) {α : Type} (kn : St → Option α) (K : Out → St → Option α) : round (table [(61, ⟨args_s_Grow_aE, mem_s_Grow_aE, outs_s_Grow_aE, F_s_Grow_aE⟩)] [(3, ⟨ltmps_s_Concat_aE_3, lmem_s_Concat_aE_3, louts_s_Concat_aE_3, L_s_Concat_aE_3⟩)]) br_s_Concat_aE (an_s_Concat_aE 11) (fd_s_Concat_aE.loop 11) kn ⟨ltmps_s_Concat_aE_11.svs (x1, (x2, (x3, ()))), lmem_s_Concat_aE_11.mem (x4, ())⟩ K = ltree_s_Concat_aE_11 x1 x2 x3 x4 (fun a b => kn ⟨ltmps_s_Concat_aE_11.svs a, lmem_s_Concat_aE_11.mem b⟩) (fun r => outLsRun louts_s_Concat_aE_11 r K) := by kernel_rfl
noncomputable def D_s_Concat_aE_11 : LCon := ⟨ltmps_s_Concat_aE_11, lmem_s_Concat_aE_11, louts_s_Concat_aE_11, L_s_Concat_aE_11⟩
theorem kl_s_Concat_aE_11 : Known Try.prog fd_s_Concat_aE [(61, C_s_Grow_aE)] [(3, D_s_Concat_aE_3)] := known_of mixT (by kernel_rfl) ⟨ok_s_Grow_aE, trivial⟩ ⟨okl_s_Concat_aE_3, trivial⟩
theorem okl_s_Concat_aE_11 : LConOK Try.prog (fd_s_Concat_aE.loop 11) D_s_Concat_aE_11 := lcon_of kl_s_Concat_aE_11 (byRef := br_s_Concat_aE) (lan := an_s_Concat_aE 11) (id := 11) (by kernel_rfl) ltmps_s_Concat_aE_11 lmem_s_Concat_aE_11 louts_s_Concat_aE_11 (fun a b kn kr => ltree_s_Concat_aE_11 a.1 a.2.1 a.2.2.1 b.1 kn kr) (fun a b => hl_s_Concat_aE_11 F_s_Grow_aE L_s_Concat_aE_3 a.1 a.2.1 a.2.2.1 b.1 _ _) (fun a b kn kr => nl_s_Concat_aE_11 a.1 a.2.1 a.2.2.1 b.1 kn kr)
theorem h_s_Concat_aE (F_s_Grow_aE : A_s_Grow_aE → M_s_Grow_aE → Option O_s_Grow_aE) (L_s_Concat_aE_3 : LT_s_Concat_aE_3 → LM_s_Concat_aE_3 → Option LO_s_Concat_aE_3) (L_s_Concat_aE_11 : LT_s_Concat_aE_11 → LM_s_Concat_aE_11 → Option LO_s_Concat_aE_11) (x1 : List ((List (Int × Int × ByteArray)))) {α : Type} (K : SV → Mem → Option α) : callBody (table [(61, ⟨args_s_Grow_aE, mem_s_Grow_aE, outs_s_Grow_aE, F_s_Grow_aE⟩)] [(3, ⟨ltmps_s_Concat_aE_3, lmem_s_Concat_aE_3, louts_s_Concat_aE_3, L_s_Concat_aE_3⟩), (11, ⟨ltmps_s_Concat_aE_11, lmem_s_Concat_aE_11, louts_s_Concat_aE_11, L_s_Concat_aE_11⟩)]) br_s_Concat_aE rc_s_Concat_aE fd_s_Concat_aE (args_s_Concat_aE.svs (x1, ())) (mem_s_Concat_aE.mem ()) K = tree_s_Concat_aE F_s_Grow_aE L_s_Concat_aE_3 L_s_Concat_aE_11 x1 (fun r => outsRun outs_s_Concat_aE r K) := by kernel_rfl
noncomputable def C_s_Concat_aE : Con := ⟨args_s_Concat_aE, mem_s_Concat_aE, outs_s_Concat_aE, F_s_Concat_aE⟩
theorem k_s_Concat_aE : Known Try.prog fd_s_Concat_aE [(61, C_s_Grow_aE)] [(3, D_s_Concat_aE_3), (11, D_s_Concat_aE_11)] := known_of mixT (by kernel_rfl) ⟨ok_s_Grow_aE, trivial⟩ ⟨okl_s_Concat_aE_3, okl_s_Concat_aE_11, trivial⟩
theorem fn_s_Concat_aE : FnOK Try.prog an_s_Concat_aE 54 Try.f54 fd_s_Concat_aE := fnOK (by kernel_rfl) (by kernel_rfl) (by kernel_rfl)
theorem ok_s_Concat_aE : ConOK Try.prog 54 C_s_Concat_aE := con_of k_s_Concat_aE (byRef := br_s_Concat_aE) fn_s_Concat_aE rc_s_Concat_aE args_s_Concat_aE mem_s_Concat_aE outs_s_Concat_aE (fun a b K => tree_s_Concat_aE F_s_Grow_aE L_s_Concat_aE_3 L_s_Concat_aE_11 a.1 K) (fun a b => h_s_Concat_aE F_s_Grow_aE L_s_Concat_aE_3 L_s_Concat_aE_11 a.1 _) (fun a b K => n_s_Concat_aE F_s_Grow_aE L_s_Concat_aE_3 L_s_Concat_aE_11 a.1 K)

def an_s_Clone_aE : Nat → LAnn := fun n => (find n []).getD ⟨0, [], [], [], []⟩
noncomputable def fd_s_Clone_aE : FD := fdOf Try.prog an_s_Clone_aE Try.f55
def br_s_Clone_aE : FuncId → CC := fun f => ⟨([] : List Nat).contains f, (find f []).getD [], (find f []).getD []⟩
def rc_s_Clone_aE : RC := ⟨true, [], []⟩
theorem h_s_Clone_aE (x1 : List (Int × Int × ByteArray)) {α : Type} (K : SV → Mem → Option α) : callBody (table [] []) br_s_Clone_aE rc_s_Clone_aE fd_s_Clone_aE (args_s_Clone_aE.svs (x1, ())) (mem_s_Clone_aE.mem ()) K = tree_s_Clone_aE x1 (fun r => outsRun outs_s_Clone_aE r K) := by kernel_rfl
noncomputable def C_s_Clone_aE : Con := ⟨args_s_Clone_aE, mem_s_Clone_aE, outs_s_Clone_aE, F_s_Clone_aE⟩
theorem k_s_Clone_aE : Known Try.prog fd_s_Clone_aE [] [] := known_of mixT (by kernel_rfl) trivial trivial
theorem fn_s_Clone_aE : FnOK Try.prog an_s_Clone_aE 55 Try.f55 fd_s_Clone_aE := fnOK (by kernel_rfl) (by kernel_rfl) (by kernel_rfl)
theorem h0_s_Clone_aE : callBody (table [] []) br_s_Clone_aE ⟨true, [], []⟩ fd_s_Clone_aE [.nils] [] (fun v m => some (v, m)) = some (.ps 70 (.cons (.int .u64) (.cons (.int .i64) (.cons .str .nil))) [], []) := by kernel_rfl
theorem h1_s_Clone_aE : callBody (table [] []) br_s_Clone_aE ⟨true, [], []⟩ fd_s_Clone_aE [.pe] [] (fun v m => some (v, m)) = some (.ps 70 (.cons (.int .u64) (.cons (.int .i64) (.cons .str .nil))) [], []) := by kernel_rfl
theorem ok_s_Clone_aE : ConOK Try.prog 55 C_s_Clone_aE := by
  have h0 : F_s_Clone_aE ([], ()) () = some ([], ()) := by simp [F_s_Clone_aE]
  refine con_slc (e := 70) (r := (.cons (.int .u64) (.cons (.int .i64) (.cons .str .nil)))) (outs := outs_s_Clone_aE) (F := F_s_Clone_aE) ?_ ?_ ?_
  · intro o ho
    cases Option.some.inj (h0.symm.trans ho)
    exact call_of k_s_Clone_aE fn_s_Clone_aE ⟨true, [], []⟩ h0_s_Clone_aE
  · intro o ho
    cases Option.some.inj (h0.symm.trans ho)
    exact call_of k_s_Clone_aE fn_s_Clone_aE ⟨true, [], []⟩ h1_s_Clone_aE
  · intro x xs o ho
    have h2 := h_s_Clone_aE (x :: xs) (fun v m => some (v, m))
    have ho : cond (decide ((x :: xs).length * 32 ≤ 140737488355328)) (some (x :: xs, ())) none = some o := ho
    cases hb : decide ((x :: xs).length * 32 ≤ 140737488355328) with
    | false => rw [hb] at ho; cases ho
    | true =>
    rw [hb] at ho
    cases ho
    refine call_of k_s_Clone_aE fn_s_Clone_aE ⟨true, [], []⟩ (h2.trans ?_)
    have hb2 : decide ((0 + (xs.length + 1)) * 32 ≤ 140737488355328) = true := by rw [Nat.zero_add]; exact hb
    show (cond (decide (0 < xs.length + 1)) (cond (decide ((0 + (xs.length + 1)) * 32 ≤ 140737488355328)) (some _) none) none : Option (SV × Mem)) = _
    rw [hb2, decide_eq_true (Nat.succ_pos _)]
    rfl

def an_rlog_Slice : Nat → LAnn := fun n => (find n []).getD ⟨0, [], [], [], []⟩
noncomputable def fd_rlog_Slice : FD := fdOf Try.prog an_rlog_Slice Try.f38
def br_rlog_Slice : FuncId → CC := fun f => ⟨([] : List Nat).contains f, (find f []).getD [], (find f []).getD []⟩
def rc_rlog_Slice : RC := ⟨true, [], []⟩
theorem h_rlog_Slice (F_rlog_Last : A_rlog_Last → M_rlog_Last → Option O_rlog_Last) (F_s_Clone_aE : A_s_Clone_aE → M_s_Clone_aE → Option O_s_Clone_aE) (x1 : Int) (x2 : Int) (x3 : List (Int × Int × ByteArray)) (x4 : Int) (x5 : Int) {α : Type} (K : SV → Mem → Option α) : callBody (table [(35, ⟨args_rlog_Last, mem_rlog_Last, outs_rlog_Last, F_rlog_Last⟩), (55, ⟨args_s_Clone_aE, mem_s_Clone_aE, outs_s_Clone_aE, F_s_Clone_aE⟩)] []) br_rlog_Slice rc_rlog_Slice fd_rlog_Slice (args_rlog_Slice.svs ((x1, (x2, (x3, ()))), (x4, (x5, ())))) (mem_rlog_Slice.mem ()) K = tree_rlog_Slice F_rlog_Last F_s_Clone_aE x1 x2 x3 x4 x5 (fun r => outsRun outs_rlog_Slice r K) := by kernel_rfl
noncomputable def C_rlog_Slice : Con := ⟨args_rlog_Slice, mem_rlog_Slice, outs_rlog_Slice, F_rlog_Slice⟩
theorem k_rlog_Slice : Known Try.prog fd_rlog_Slice [(35, C_rlog_Last), (55, C_s_Clone_aE)] [] := known_of mixT (by kernel_rfl) ⟨ok_rlog_Last, ok_s_Clone_aE, trivial⟩ trivial
theorem fn_rlog_Slice : FnOK Try.prog an_rlog_Slice 38 Try.f38 fd_rlog_Slice := fnOK (by kernel_rfl) (by kernel_rfl) (by kernel_rfl)
theorem ok_rlog_Slice : ConOK Try.prog 38 C_rlog_Slice := con_of k_rlog_Slice (byRef := br_rlog_Slice) fn_rlog_Slice rc_rlog_Slice args_rlog_Slice mem_rlog_Slice outs_rlog_Slice (fun a b K => tree_rlog_Slice F_rlog_Last F_s_Clone_aE a.1.1 a.1.2.1 a.1.2.2.1 a.2.1 a.2.2.1 K) (fun a b => h_rlog_Slice F_rlog_Last F_s_Clone_aE a.1.1 a.1.2.1 a.1.2.2.1 a.2.1 a.2.2.1 _) (fun a b K => n_rlog_Slice F_rlog_Last F_s_Clone_aE a.1.1 a.1.2.1 a.1.2.2.1 a.2.1 a.2.2.1 K)

def an_rlog_with : Nat → LAnn := fun n => (find n []).getD ⟨0, [], [], [], []⟩
noncomputable def fd_rlog_with : FD := fdOf Try.prog an_rlog_with Try.f52
def br_rlog_with : FuncId → CC := fun f => ⟨([] : List Nat).contains f, (find f []).getD [], (find f []).getD []⟩
def rc_rlog_with : RC := ⟨true, [], []⟩
theorem h_rlog_with (F_s_Clone_aE : A_s_Clone_aE → M_s_Clone_aE → Option O_s_Clone_aE) (x1 : Int) (x2 : Int) (x3 : List (Int × Int × ByteArray)) (x4 : List (Int × Int × ByteArray)) {α : Type} (K : SV → Mem → Option α) : callBody (table [(55, ⟨args_s_Clone_aE, mem_s_Clone_aE, outs_s_Clone_aE, F_s_Clone_aE⟩)] []) br_rlog_with rc_rlog_with fd_rlog_with (args_rlog_with.svs ((x1, (x2, (x3, ()))), (x4, ()))) (mem_rlog_with.mem ()) K = tree_rlog_with F_s_Clone_aE x1 x2 x3 x4 (fun r => outsRun outs_rlog_with r K) := by kernel_rfl
noncomputable def C_rlog_with : Con := ⟨args_rlog_with, mem_rlog_with, outs_rlog_with, F_rlog_with⟩
theorem k_rlog_with : Known Try.prog fd_rlog_with [(55, C_s_Clone_aE)] [] := known_of mixT (by kernel_rfl) ⟨ok_s_Clone_aE, trivial⟩ trivial
theorem fn_rlog_with : FnOK Try.prog an_rlog_with 52 Try.f52 fd_rlog_with := fnOK (by kernel_rfl) (by kernel_rfl) (by kernel_rfl)
theorem ok_rlog_with : ConOK Try.prog 52 C_rlog_with := con_of k_rlog_with (byRef := br_rlog_with) fn_rlog_with rc_rlog_with args_rlog_with mem_rlog_with outs_rlog_with (fun a b K => tree_rlog_with F_s_Clone_aE a.1.1 a.1.2.1 a.1.2.2.1 a.2.1 K) (fun a b => h_rlog_with F_s_Clone_aE a.1.1 a.1.2.1 a.1.2.2.1 a.2.1 _) (fun a b K => n_rlog_with F_s_Clone_aE a.1.1 a.1.2.1 a.1.2.2.1 a.2.1 K)

def an_rlog_cover : Nat → LAnn := fun n => (find n []).getD ⟨0, [], [], [], []⟩
noncomputable def fd_rlog_cover : FD := fdOf Try.prog an_rlog_cover Try.f53
def br_rlog_cover : FuncId → CC := fun f => ⟨([] : List Nat).contains f, (find f []).getD [], (find f []).getD []⟩
def rc_rlog_cover : RC := ⟨true, [], []⟩
theorem h_rlog_cover (x1 : Int) (x2 : Int) (x3 : List (Int × Int × ByteArray)) (x4 : Int) (x5 : Int) (x6 : List (Int × Int × ByteArray)) {α : Type} (K : SV → Mem → Option α) : callBody (table [] []) br_rlog_cover rc_rlog_cover fd_rlog_cover (args_rlog_cover.svs ((x1, (x2, (x3, ()))), (x4, (x5, (x6, ()))))) (mem_rlog_cover.mem ()) K = tree_rlog_cover x1 x2 x3 x4 x5 x6 (fun r => outsRun outs_rlog_cover r K) := by kernel_rfl
noncomputable def C_rlog_cover : Con := ⟨args_rlog_cover, mem_rlog_cover, outs_rlog_cover, F_rlog_cover⟩
theorem k_rlog_cover : Known Try.prog fd_rlog_cover [] [] := known_of mixT (by kernel_rfl) trivial trivial
theorem fn_rlog_cover : FnOK Try.prog an_rlog_cover 53 Try.f53 fd_rlog_cover := fnOK (by kernel_rfl) (by kernel_rfl) (by kernel_rfl)
theorem ok_rlog_cover : ConOK Try.prog 53 C_rlog_cover := con_of k_rlog_cover (byRef := br_rlog_cover) fn_rlog_cover rc_rlog_cover args_rlog_cover mem_rlog_cover outs_rlog_cover (fun a b K => tree_rlog_cover a.1.1 a.1.2.1 a.1.2.2.1 a.2.1 a.2.2.1 a.2.2.2.1 K) (fun a b => h_rlog_cover a.1.1 a.1.2.1 a.1.2.2.1 a.2.1 a.2.2.1 a.2.2.2.1 _) (fun a b K => n_rlog_cover a.1.1 a.1.2.1 a.1.2.2.1 a.2.1 a.2.2.1 a.2.2.2.1 K)

def an_rlog_Merge : Nat → LAnn := fun n => (find n [(13, ⟨13, [3, 4, 8, 11, 12, 16, 72, 73, 74], [], [9, 10, 17, 18, 74, 75, 76, 77, 78, 79, 80, 81, 82, 83, 84, 85, 86, 87, 88, 89, 90, 91, 92, 93, 94, 95, 96, 97, 98, 99, 100, 101, 102, 103, 104, 105, 106, 107, 108, 109, 110, 111, 112, 113, 114, 115, 116, 117, 118, 119], [8, 9, 10, 11, 12]⟩)]).getD ⟨0, [], [], [], []⟩
noncomputable def fd_rlog_Merge : FD := fdOf Try.prog an_rlog_Merge Try.f36
def br_rlog_Merge : FuncId → CC := fun f => ⟨([] : List Nat).contains f, (find f []).getD [], (find f []).getD []⟩
def rc_rlog_Merge : RC := ⟨true, [], []⟩
theorem hl_rlog_Merge_13 (F_rlog_with : A_rlog_with → M_rlog_with → Option O_rlog_with) (F_rlog_cover : A_rlog_cover → M_rlog_cover → Option O_rlog_cover) (F_rlog_Term : A_rlog_Term → M_rlog_Term → Option O_rlog_Term) (F_s_Concat_aE : A_s_Concat_aE → M_s_Concat_aE → Option O_s_Concat_aE) (x1 : List (Int × Int × ByteArray)) (x2 : Int) (x3 : Int) (x4 : List (Int × Int × ByteArray)) (x5 : Int) (x6 : Int) (x7 : Int) (x8 : Int) (x9 : List (Int × Int × ByteArray)) (x10 : Int) (x11 : Int) (x12 : Int) (x13 : Int) (x14 : List (Int × Int × ByteArray)) {α : Type} (kn : St → Option α) (K : Out → St → Option α) : round (table [(52, ⟨args_rlog_with, mem_rlog_with, outs_rlog_with, F_rlog_with⟩), (53, ⟨args_rlog_cover, mem_rlog_cover, outs_rlog_cover, F_rlog_cover⟩), (21, ⟨args_rlog_Term, mem_rlog_Term, outs_rlog_Term, F_rlog_Term⟩), (54, ⟨args_s_Concat_aE, mem_s_Concat_aE, outs_s_Concat_aE, F_s_Concat_aE⟩)] []) br_rlog_Merge (an_rlog_Merge 13) (fd_rlog_Merge.loop 13) kn ⟨ltmps_rlog_Merge_13.svs (x1, (x2, (x3, (x4, (x5, (x6, ())))))), lmem_rlog_Merge_13.mem ((x7, (x8, (x9, ()))), ((x10, (x11, ())), ((x12, (x13, (x14, ()))), ())))⟩ K = ltree_rlog_Merge_13 F_rlog_with F_s_Concat_aE x1 x2 x3 x4 x5 x6 x7 x8 x9 x10 x11 x12 x13 x14 (fun a b => kn ⟨ltmps_rlog_Merge_13.svs a, lmem_rlog_Merge_13.mem b⟩) (fun r => outLsRun louts_rlog_Merge_13 r K) := by kernel_rfl
noncomputable def D_rlog_Merge_13 : LCon := ⟨ltmps_rlog_Merge_13, lmem_rlog_Merge_13, louts_rlog_Merge_13, L_rlog_Merge_13⟩
theorem kl_rlog_Merge_13 : Known Try.prog fd_rlog_Merge [(52, C_rlog_with), (53, C_rlog_cover), (21, C_rlog_Term), (54, C_s_Concat_aE)] [] := known_of mixT (by kernel_rfl) ⟨ok_rlog_with, ok_rlog_cover, ok_rlog_Term, ok_s_Concat_aE, trivial⟩ trivial
theorem okl_rlog_Merge_13 : LConOK Try.prog (fd_rlog_Merge.loop 13) D_rlog_Merge_13 := lcon_of kl_rlog_Merge_13 (byRef := br_rlog_Merge) (lan := an_rlog_Merge 13) (id := 13) (by kernel_rfl) ltmps_rlog_Merge_13 lmem_rlog_Merge_13 louts_rlog_Merge_13 (fun a b kn kr => ltree_rlog_Merge_13 F_rlog_with F_s_Concat_aE a.1 a.2.1 a.2.2.1 a.2.2.2.1 a.2.2.2.2.1 a.2.2.2.2.2.1 b.1.1 b.1.2.1 b.1.2.2.1 b.2.1.1 b.2.1.2.1 b.2.2.1.1 b.2.2.1.2.1 b.2.2.1.2.2.1 kn kr) (fun a b => hl_rlog_Merge_13 F_rlog_with F_rlog_cover F_rlog_Term F_s_Concat_aE a.1 a.2.1 a.2.2.1 a.2.2.2.1 a.2.2.2.2.1 a.2.2.2.2.2.1 b.1.1 b.1.2.1 b.1.2.2.1 b.2.1.1 b.2.1.2.1 b.2.2.1.1 b.2.2.1.2.1 b.2.2.1.2.2.1 _ _) (fun a b kn kr => nl_rlog_Merge_13 F_rlog_with F_s_Concat_aE a.1 a.2.1 a.2.2.1 a.2.2.2.1 a.2.2.2.2.1 a.2.2.2.2.2.1 b.1.1 b.1.2.1 b.1.2.2.1 b.2.1.1 b.2.1.2.1 b.2.2.1.1 b.2.2.1.2.1 b.2.2.1.2.2.1 kn kr)
theorem h_rlog_Merge (F_rlog_with : A_rlog_with → M_rlog_with → Option O_rlog_with) (F_rlog_cover : A_rlog_cover → M_rlog_cover → Option O_rlog_cover) (F_rlog_Term : A_rlog_Term → M_rlog_Term → Option O_rlog_Term) (F_s_Concat_aE : A_s_Concat_aE → M_s_Concat_aE → Option O_s_Concat_aE) (L_rlog_Merge_13 : LT_rlog_Merge_13 → LM_rlog_Merge_13 → Option LO_rlog_Merge_13) (x1 : Int) (x2 : Int) (x3 : List (Int × Int × ByteArray)) (x4 : Int) (x5 : Int) (x6 : List (Int × Int × ByteArray)) {α : Type} (K : SV → Mem → Option α) : callBody (table [(52, ⟨args_rlog_with, mem_rlog_with, outs_rlog_with, F_rlog_with⟩), (53, ⟨args_rlog_cover, mem_rlog_cover, outs_rlog_cover, F_rlog_cover⟩), (21, ⟨args_rlog_Term, mem_rlog_Term, outs_rlog_Term, F_rlog_Term⟩), (54, ⟨args_s_Concat_aE, mem_s_Concat_aE, outs_s_Concat_aE, F_s_Concat_aE⟩)] [(13, ⟨ltmps_rlog_Merge_13, lmem_rlog_Merge_13, louts_rlog_Merge_13, L_rlog_Merge_13⟩)]) br_rlog_Merge rc_rlog_Merge fd_rlog_Merge (args_rlog_Merge.svs ((x1, (x2, (x3, ()))), (x4, (x5, (x6, ()))))) (mem_rlog_Merge.mem ()) K = tree_rlog_Merge F_rlog_with F_rlog_cover F_rlog_Term L_rlog_Merge_13 x1 x2 x3 x4 x5 x6 (fun r => outsRun outs_rlog_Merge r K) := by kernel_rfl
noncomputable def C_rlog_Merge : Con := ⟨args_rlog_Merge, mem_rlog_Merge, outs_rlog_Merge, F_rlog_Merge⟩
theorem k_rlog_Merge : Known Try.prog fd_rlog_Merge [(52, C_rlog_with), (53, C_rlog_cover), (21, C_rlog_Term), (54, C_s_Concat_aE)] [(13, D_rlog_Merge_13)] := known_of mixT (by kernel_rfl) ⟨ok_rlog_with, ok_rlog_cover, ok_rlog_Term, ok_s_Concat_aE, trivial⟩ ⟨okl_rlog_Merge_13, trivial⟩
theorem fn_rlog_Merge : FnOK Try.prog an_rlog_Merge 36 Try.f36 fd_rlog_Merge := fnOK (by kernel_rfl) (by kernel_rfl) (by kernel_rfl)
theorem ok_rlog_Merge : ConOK Try.prog 36 C_rlog_Merge := con_of k_rlog_Merge (byRef := br_rlog_Merge) fn_rlog_Merge rc_rlog_Merge args_rlog_Merge mem_rlog_Merge outs_rlog_Merge (fun a b K => tree_rlog_Merge F_rlog_with F_rlog_cover F_rlog_Term L_rlog_Merge_13 a.1.1 a.1.2.1 a.1.2.2.1 a.2.1 a.2.2.1 a.2.2.2.1 K) (fun a b => h_rlog_Merge F_rlog_with F_rlog_cover F_rlog_Term F_s_Concat_aE L_rlog_Merge_13 a.1.1 a.1.2.1 a.1.2.2.1 a.2.1 a.2.2.1 a.2.2.2.1 _) (fun a b K => n_rlog_Merge F_rlog_with F_rlog_cover F_rlog_Term L_rlog_Merge_13 a.1.1 a.1.2.1 a.1.2.2.1 a.2.1 a.2.2.1 a.2.2.2.1 K)

def an_rlog_Newer : Nat → LAnn := fun n => (find n []).getD ⟨0, [], [], [], []⟩
noncomputable def fd_rlog_Newer : FD := fdOf Try.prog an_rlog_Newer Try.f45
def br_rlog_Newer : FuncId → CC := fun f => ⟨([] : List Nat).contains f, (find f []).getD [], (find f []).getD []⟩
def rc_rlog_Newer : RC := ⟨true, [], []⟩
theorem h_rlog_Newer (F_rlog_Last : A_rlog_Last → M_rlog_Last → Option O_rlog_Last) (F_rlog_Term : A_rlog_Term → M_rlog_Term → Option O_rlog_Term) (x1 : Int) (x2 : Int) (x3 : List (Int × Int × ByteArray)) (x4 : Int) (x5 : Int) {α : Type} (K : SV → Mem → Option α) : callBody (table [(35, ⟨args_rlog_Last, mem_rlog_Last, outs_rlog_Last, F_rlog_Last⟩), (21, ⟨args_rlog_Term, mem_rlog_Term, outs_rlog_Term, F_rlog_Term⟩)] []) br_rlog_Newer rc_rlog_Newer fd_rlog_Newer (args_rlog_Newer.svs ((x1, (x2, (x3, ()))), (x4, (x5, ())))) (mem_rlog_Newer.mem ()) K = tree_rlog_Newer F_rlog_Last F_rlog_Term x1 x2 x3 x4 x5 (fun r => outsRun outs_rlog_Newer r K) := by kernel_rfl
noncomputable def C_rlog_Newer : Con := ⟨args_rlog_Newer, mem_rlog_Newer, outs_rlog_Newer, F_rlog_Newer⟩
theorem k_rlog_Newer : Known Try.prog fd_rlog_Newer [(35, C_rlog_Last), (21, C_rlog_Term)] [] := known_of mixT (by kernel_rfl) ⟨ok_rlog_Last, ok_rlog_Term, trivial⟩ trivial
theorem fn_rlog_Newer : FnOK Try.prog an_rlog_Newer 45 Try.f45 fd_rlog_Newer := fnOK (by kernel_rfl) (by kernel_rfl) (by kernel_rfl)
theorem ok_rlog_Newer : ConOK Try.prog 45 C_rlog_Newer := con_of k_rlog_Newer (byRef := br_rlog_Newer) fn_rlog_Newer rc_rlog_Newer args_rlog_Newer mem_rlog_Newer outs_rlog_Newer (fun a b K => tree_rlog_Newer F_rlog_Last F_rlog_Term a.1.1 a.1.2.1 a.1.2.2.1 a.2.1 a.2.2.1 K) (fun a b => h_rlog_Newer F_rlog_Last F_rlog_Term a.1.1 a.1.2.1 a.1.2.2.1 a.2.1 a.2.2.1 _) (fun a b K => n_rlog_Newer F_rlog_Last F_rlog_Term a.1.1 a.1.2.1 a.1.2.2.1 a.2.1 a.2.2.1 K)

end Go.Proofs.Ytjhaidbfahobmaa.S2
