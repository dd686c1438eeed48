/- The program's functions come to their plain forms, by program. -/
import Derived.Test.YtgakbdikappdbaaGcopy
import Derived.Test.YtgakbdikappdbaaHbase
set_option maxRecDepth 100000
set_option maxHeartbeats 0
set_option linter.unusedVariables false
set_option linter.unusedSimpArgs false
namespace Go.Proofs.Ytgakbdikappdbaa.S2
open Go
def an_slices_Clone_uint64 : Nat → LAnn := fun n => (find n []).getD ⟨0, [], [], [], []⟩
noncomputable def fd_slices_Clone_uint64 : FD := fdOf Try.prog an_slices_Clone_uint64 Try.f19
def br_slices_Clone_uint64 : FuncId → CC := fun f => ⟨([] : List Nat).contains f, (find f []).getD [], (find f []).getD []⟩
def rc_slices_Clone_uint64 : RC := ⟨true, [], []⟩
theorem h_slices_Clone_uint64 (x1 : List Int) {α : Type} (K : SV → Mem → Option α) : callBody (table [] []) br_slices_Clone_uint64 rc_slices_Clone_uint64 fd_slices_Clone_uint64 (args_slices_Clone_uint64.svs (x1, ())) (mem_slices_Clone_uint64.mem ()) K = tree_slices_Clone_uint64 x1 (fun r => outsRun outs_slices_Clone_uint64 r K) := by kernel_rfl
noncomputable def C_slices_Clone_uint64 : Con := ⟨args_slices_Clone_uint64, mem_slices_Clone_uint64, outs_slices_Clone_uint64, F_slices_Clone_uint64⟩
theorem k_slices_Clone_uint64 : Known Try.prog fd_slices_Clone_uint64 [] [] := known_of mixT (by kernel_rfl) trivial trivial
theorem fn_slices_Clone_uint64 : FnOK Try.prog an_slices_Clone_uint64 19 Try.f19 fd_slices_Clone_uint64 := fnOK (by kernel_rfl) (by kernel_rfl) (by kernel_rfl)
theorem h0_slices_Clone_uint64 : callBody (table [] []) br_slices_Clone_uint64 ⟨true, [], []⟩ fd_slices_Clone_uint64 [.nils] [] (fun v m => some (v, m)) = some (.ps 22 (.cons (.int .u64) .nil) [], []) := by kernel_rfl
theorem h1_slices_Clone_uint64 : callBody (table [] []) br_slices_Clone_uint64 ⟨true, [], []⟩ fd_slices_Clone_uint64 [.pe] [] (fun v m => some (v, m)) = some (.ps 22 (.cons (.int .u64) .nil) [], []) := by kernel_rfl
theorem ok_slices_Clone_uint64 : ConOK Try.prog 19 C_slices_Clone_uint64 := by
  have h0 : F_slices_Clone_uint64 ([], ()) () = some ([], ()) := by simp [F_slices_Clone_uint64]
  refine con_slc (e := 22) (r := (.cons (.int .u64) .nil)) (outs := outs_slices_Clone_uint64) (F := F_slices_Clone_uint64) ?_ ?_ ?_
  · intro o ho
    cases Option.some.inj (h0.symm.trans ho)
    exact call_of k_slices_Clone_uint64 fn_slices_Clone_uint64 ⟨true, [], []⟩ h0_slices_Clone_uint64
  · intro o ho
    cases Option.some.inj (h0.symm.trans ho)
    exact call_of k_slices_Clone_uint64 fn_slices_Clone_uint64 ⟨true, [], []⟩ h1_slices_Clone_uint64
  · intro x xs o ho
    have h2 := h_slices_Clone_uint64 (x :: xs) (fun v m => some (v, m))
    have ho : cond (decide ((x :: xs).length * 8 ≤ 140737488355328)) (some (x :: xs, ())) none = some o := ho
    cases hb : decide ((x :: xs).length * 8 ≤ 140737488355328) with
    | false => rw [hb] at ho; cases ho
    | true =>
    rw [hb] at ho
    cases ho
    refine call_of k_slices_Clone_uint64 fn_slices_Clone_uint64 ⟨true, [], []⟩ (h2.trans ?_)
    have hb2 : decide ((0 + (xs.length + 1)) * 8 ≤ 140737488355328) = true := by rw [Nat.zero_add]; exact hb
    show (cond (decide (0 < xs.length + 1)) (cond (decide ((0 + (xs.length + 1)) * 8 ≤ 140737488355328)) (some _) none) none : Option (SV × Mem)) = _
    rw [hb2, decide_eq_true (Nat.succ_pos _)]
    rfl
def an_slices_Clone_api_Peer : Nat → LAnn := fun n => (find n []).getD ⟨0, [], [], [], []⟩
noncomputable def fd_slices_Clone_api_Peer : FD := fdOf Try.prog an_slices_Clone_api_Peer Try.f54
def br_slices_Clone_api_Peer : FuncId → CC := fun f => ⟨([] : List Nat).contains f, (find f []).getD [], (find f []).getD []⟩
def rc_slices_Clone_api_Peer : RC := ⟨true, [], []⟩
theorem h_slices_Clone_api_Peer (x1 : List (Int × Int × Int)) {α : Type} (K : SV → Mem → Option α) : callBody (table [] []) br_slices_Clone_api_Peer rc_slices_Clone_api_Peer fd_slices_Clone_api_Peer (args_slices_Clone_api_Peer.svs (x1, ())) (mem_slices_Clone_api_Peer.mem ()) K = tree_slices_Clone_api_Peer x1 (fun r => outsRun outs_slices_Clone_api_Peer r K) := by kernel_rfl
noncomputable def C_slices_Clone_api_Peer : Con := ⟨args_slices_Clone_api_Peer, mem_slices_Clone_api_Peer, outs_slices_Clone_api_Peer, F_slices_Clone_api_Peer⟩
theorem k_slices_Clone_api_Peer : Known Try.prog fd_slices_Clone_api_Peer [] [] := known_of mixT (by kernel_rfl) trivial trivial
theorem fn_slices_Clone_api_Peer : FnOK Try.prog an_slices_Clone_api_Peer 54 Try.f54 fd_slices_Clone_api_Peer := fnOK (by kernel_rfl) (by kernel_rfl) (by kernel_rfl)
theorem h0_slices_Clone_api_Peer : callBody (table [] []) br_slices_Clone_api_Peer ⟨true, [], []⟩ fd_slices_Clone_api_Peer [.nils] [] (fun v m => some (v, m)) = some (.ps 58 (.cons (.int .u64) (.cons (.int .u64) (.cons (.int .u64) .nil))) [], []) := by kernel_rfl
theorem h1_slices_Clone_api_Peer : callBody (table [] []) br_slices_Clone_api_Peer ⟨true, [], []⟩ fd_slices_Clone_api_Peer [.pe] [] (fun v m => some (v, m)) = some (.ps 58 (.cons (.int .u64) (.cons (.int .u64) (.cons (.int .u64) .nil))) [], []) := by kernel_rfl
theorem ok_slices_Clone_api_Peer : ConOK Try.prog 54 C_slices_Clone_api_Peer := by
  have h0 : F_slices_Clone_api_Peer ([], ()) () = some ([], ()) := by simp [F_slices_Clone_api_Peer]
  refine con_slc (e := 58) (r := (.cons (.int .u64) (.cons (.int .u64) (.cons (.int .u64) .nil)))) (outs := outs_slices_Clone_api_Peer) (F := F_slices_Clone_api_Peer) ?_ ?_ ?_
  · intro o ho
    cases Option.some.inj (h0.symm.trans ho)
    exact call_of k_slices_Clone_api_Peer fn_slices_Clone_api_Peer ⟨true, [], []⟩ h0_slices_Clone_api_Peer
  · intro o ho
    cases Option.some.inj (h0.symm.trans ho)
    exact call_of k_slices_Clone_api_Peer fn_slices_Clone_api_Peer ⟨true, [], []⟩ h1_slices_Clone_api_Peer
  · intro x xs o ho
    have h2 := h_slices_Clone_api_Peer (x :: xs) (fun v m => some (v, m))
    have ho : cond (decide ((x :: xs).length * 24 ≤ 140737488355328)) (some (x :: xs, ())) none = some o := ho
    cases hb : decide ((x :: xs).length * 24 ≤ 140737488355328) with
    | false => rw [hb] at ho; cases ho
    | true =>
    rw [hb] at ho
    cases ho
    refine call_of k_slices_Clone_api_Peer fn_slices_Clone_api_Peer ⟨true, [], []⟩ (h2.trans ?_)
    have hb2 : decide ((0 + (xs.length + 1)) * 24 ≤ 140737488355328) = true := by rw [Nat.zero_add]; exact hb
    show (cond (decide (0 < xs.length + 1)) (cond (decide ((0 + (xs.length + 1)) * 24 ≤ 140737488355328)) (some _) none) none : Option (SV × Mem)) = _
    rw [hb2, decide_eq_true (Nat.succ_pos _)]
    rfl
def an_slices_Clone_api_Entry : Nat → LAnn := fun n => (find n []).getD ⟨0, [], [], [], []⟩
noncomputable def fd_slices_Clone_api_Entry : FD := fdOf Try.prog an_slices_Clone_api_Entry Try.f55
def br_slices_Clone_api_Entry : FuncId → CC := fun f => ⟨([] : List Nat).contains f, (find f []).getD [], (find f []).getD []⟩
def rc_slices_Clone_api_Entry : RC := ⟨true, [], []⟩
theorem h_slices_Clone_api_Entry (x1 : List (Int × Int × ByteArray)) {α : Type} (K : SV → Mem → Option α) : callBody (table [] []) br_slices_Clone_api_Entry rc_slices_Clone_api_Entry fd_slices_Clone_api_Entry (args_slices_Clone_api_Entry.svs (x1, ())) (mem_slices_Clone_api_Entry.mem ()) K = tree_slices_Clone_api_Entry x1 (fun r => outsRun outs_slices_Clone_api_Entry r K) := by kernel_rfl
noncomputable def C_slices_Clone_api_Entry : Con := ⟨args_slices_Clone_api_Entry, mem_slices_Clone_api_Entry, outs_slices_Clone_api_Entry, F_slices_Clone_api_Entry⟩
theorem k_slices_Clone_api_Entry : Known Try.prog fd_slices_Clone_api_Entry [] [] := known_of mixT (by kernel_rfl) trivial trivial
theorem fn_slices_Clone_api_Entry : FnOK Try.prog an_slices_Clone_api_Entry 55 Try.f55 fd_slices_Clone_api_Entry := fnOK (by kernel_rfl) (by kernel_rfl) (by kernel_rfl)
theorem h0_slices_Clone_api_Entry : callBody (table [] []) br_slices_Clone_api_Entry ⟨true, [], []⟩ fd_slices_Clone_api_Entry [.nils] [] (fun v m => some (v, m)) = some (.ps 52 (.cons (.int .u64) (.cons (.int .i64) (.cons .str .nil))) [], []) := by kernel_rfl
theorem h1_slices_Clone_api_Entry : callBody (table [] []) br_slices_Clone_api_Entry ⟨true, [], []⟩ fd_slices_Clone_api_Entry [.pe] [] (fun v m => some (v, m)) = some (.ps 52 (.cons (.int .u64) (.cons (.int .i64) (.cons .str .nil))) [], []) := by kernel_rfl
theorem ok_slices_Clone_api_Entry : ConOK Try.prog 55 C_slices_Clone_api_Entry := by
  have h0 : F_slices_Clone_api_Entry ([], ()) () = some ([], ()) := by simp [F_slices_Clone_api_Entry]
  refine con_slc (e := 52) (r := (.cons (.int .u64) (.cons (.int .i64) (.cons .str .nil)))) (outs := outs_slices_Clone_api_Entry) (F := F_slices_Clone_api_Entry) ?_ ?_ ?_
  · intro o ho
    cases Option.some.inj (h0.symm.trans ho)
    exact call_of k_slices_Clone_api_Entry fn_slices_Clone_api_Entry ⟨true, [], []⟩ h0_slices_Clone_api_Entry
  · intro o ho
    cases Option.some.inj (h0.symm.trans ho)
    exact call_of k_slices_Clone_api_Entry fn_slices_Clone_api_Entry ⟨true, [], []⟩ h1_slices_Clone_api_Entry
  · intro x xs o ho
    have h2 := h_slices_Clone_api_Entry (x :: xs) (fun v m => some (v, m))
    have ho : cond (decide ((x :: xs).length * 32 ≤ 140737488355328)) (some (x :: xs, ())) none = some o := ho
    cases hb : decide ((x :: xs).length * 32 ≤ 140737488355328) with
    | false => rw [hb] at ho; cases ho
    | true =>
    rw [hb] at ho
    cases ho
    refine call_of k_slices_Clone_api_Entry fn_slices_Clone_api_Entry ⟨true, [], []⟩ (h2.trans ?_)
    have hb2 : decide ((0 + (xs.length + 1)) * 32 ≤ 140737488355328) = true := by rw [Nat.zero_add]; exact hb
    show (cond (decide (0 < xs.length + 1)) (cond (decide ((0 + (xs.length + 1)) * 32 ≤ 140737488355328)) (some _) none) none : Option (SV × Mem)) = _
    rw [hb2, decide_eq_true (Nat.succ_pos _)]
    rfl
def an_raft_Copy : Nat → LAnn := fun n => (find n []).getD ⟨0, [], [], [], []⟩
noncomputable def fd_raft_Copy : FD := fdOf Try.prog an_raft_Copy Try.f36
def br_raft_Copy : FuncId → CC := fun f => ⟨([] : List Nat).contains f, (find f []).getD [], (find f []).getD []⟩
def rc_raft_Copy : RC := ⟨true, [], []⟩
theorem h_raft_Copy (F_slices_Clone_uint64 : A_slices_Clone_uint64 → M_slices_Clone_uint64 → Option O_slices_Clone_uint64) (F_slices_Clone_api_Peer : A_slices_Clone_api_Peer → M_slices_Clone_api_Peer → Option O_slices_Clone_api_Peer) (F_slices_Clone_api_Entry : A_slices_Clone_api_Entry → M_slices_Clone_api_Entry → Option O_slices_Clone_api_Entry) (x1 : Int) (x2 : List Int) (x3 : Int) (x4 : Int) (x5 : Int) (x6 : Int) (x7 : List (Int × Int × ByteArray)) (x8 : ByteArray) (x9 : Int) (x10 : Int) (x11 : Int) (x12 : List Int) (x13 : List (Int × Int × Int)) (x14 : Int) {α : Type} (K : SV → Mem → Option α) : callBody (table [(19, ⟨args_slices_Clone_uint64, mem_slices_Clone_uint64, outs_slices_Clone_uint64, F_slices_Clone_uint64⟩), (54, ⟨args_slices_Clone_api_Peer, mem_slices_Clone_api_Peer, outs_slices_Clone_api_Peer, F_slices_Clone_api_Peer⟩), (55, ⟨args_slices_Clone_api_Entry, mem_slices_Clone_api_Entry, outs_slices_Clone_api_Entry, F_slices_Clone_api_Entry⟩)] []) br_raft_Copy rc_raft_Copy fd_raft_Copy (args_raft_Copy.svs ((x1, (x2, (x3, (x4, (x5, (x6, (x7, (x8, (x9, (x10, (x11, (x12, (x13, (x14, ())))))))))))))), ())) (mem_raft_Copy.mem ()) K = tree_raft_Copy F_slices_Clone_uint64 F_slices_Clone_api_Peer F_slices_Clone_api_Entry x1 x2 x3 x4 x5 x6 x7 x8 x9 x10 x11 x12 x13 x14 (fun r => outsRun outs_raft_Copy r K) := by kernel_rfl
noncomputable def C_raft_Copy : Con := ⟨args_raft_Copy, mem_raft_Copy, outs_raft_Copy, F_raft_Copy⟩
theorem k_raft_Copy : Known Try.prog fd_raft_Copy [(19, C_slices_Clone_uint64), (54, C_slices_Clone_api_Peer), (55, C_slices_Clone_api_Entry)] [] := known_of mixT (by kernel_rfl) ⟨ok_slices_Clone_uint64, ok_slices_Clone_api_Peer, ok_slices_Clone_api_Entry, trivial⟩ trivial
theorem fn_raft_Copy : FnOK Try.prog an_raft_Copy 36 Try.f36 fd_raft_Copy := fnOK (by kernel_rfl) (by kernel_rfl) (by kernel_rfl)
theorem ok_raft_Copy : ConOK Try.prog 36 C_raft_Copy := con_of k_raft_Copy (byRef := br_raft_Copy) fn_raft_Copy rc_raft_Copy args_raft_Copy mem_raft_Copy outs_raft_Copy (fun a b K => tree_raft_Copy F_slices_Clone_uint64 F_slices_Clone_api_Peer F_slices_Clone_api_Entry a.1.1 a.1.2.1 a.1.2.2.1 a.1.2.2.2.1 a.1.2.2.2.2.1 a.1.2.2.2.2.2.1 a.1.2.2.2.2.2.2.1 a.1.2.2.2.2.2.2.2.1 a.1.2.2.2.2.2.2.2.2.1 a.1.2.2.2.2.2.2.2.2.2.1 a.1.2.2.2.2.2.2.2.2.2.2.1 a.1.2.2.2.2.2.2.2.2.2.2.2.1 a.1.2.2.2.2.2.2.2.2.2.2.2.2.1 a.1.2.2.2.2.2.2.2.2.2.2.2.2.2.1 K) (fun a b => h_raft_Copy F_slices_Clone_uint64 F_slices_Clone_api_Peer F_slices_Clone_api_Entry a.1.1 a.1.2.1 a.1.2.2.1 a.1.2.2.2.1 a.1.2.2.2.2.1 a.1.2.2.2.2.2.1 a.1.2.2.2.2.2.2.1 a.1.2.2.2.2.2.2.2.1 a.1.2.2.2.2.2.2.2.2.1 a.1.2.2.2.2.2.2.2.2.2.1 a.1.2.2.2.2.2.2.2.2.2.2.1 a.1.2.2.2.2.2.2.2.2.2.2.2.1 a.1.2.2.2.2.2.2.2.2.2.2.2.2.1 a.1.2.2.2.2.2.2.2.2.2.2.2.2.2.1 _) (fun a b K => n_raft_Copy F_slices_Clone_uint64 F_slices_Clone_api_Peer F_slices_Clone_api_Entry a.1.1 a.1.2.1 a.1.2.2.1 a.1.2.2.2.1 a.1.2.2.2.2.1 a.1.2.2.2.2.2.1 a.1.2.2.2.2.2.2.1 a.1.2.2.2.2.2.2.2.1 a.1.2.2.2.2.2.2.2.2.1 a.1.2.2.2.2.2.2.2.2.2.1 a.1.2.2.2.2.2.2.2.2.2.2.1 a.1.2.2.2.2.2.2.2.2.2.2.2.1 a.1.2.2.2.2.2.2.2.2.2.2.2.2.1 a.1.2.2.2.2.2.2.2.2.2.2.2.2.2.1 K)
def an_raft_begun : Nat → LAnn := fun n => (find n []).getD ⟨0, [], [], [], []⟩
noncomputable def fd_raft_begun : FD := fdOf Try.prog an_raft_begun Try.f26
def br_raft_begun : FuncId → CC := fun f => ⟨([] : List Nat).contains f, (find f []).getD [], (find f []).getD []⟩
def rc_raft_begun : RC := ⟨true, [], []⟩
theorem h_raft_begun (F_raft_Copy : A_raft_Copy → M_raft_Copy → Option O_raft_Copy) (x1 : Int) (x2 : List Int) (x3 : Int) (x4 : Int) (x5 : Int) (x6 : Int) (x7 : List (Int × Int × ByteArray)) (x8 : ByteArray) (x9 : Int) (x10 : Int) (x11 : Int) (x12 : List Int) (x13 : List (Int × Int × Int)) (x14 : Int) (x15 : Int) {α : Type} (K : SV → Mem → Option α) : callBody (table [(36, ⟨args_raft_Copy, mem_raft_Copy, outs_raft_Copy, F_raft_Copy⟩)] []) br_raft_begun rc_raft_begun fd_raft_begun (args_raft_begun.svs ((x1, (x2, (x3, (x4, (x5, (x6, (x7, (x8, (x9, (x10, (x11, (x12, (x13, (x14, ())))))))))))))), (x15, ()))) (mem_raft_begun.mem ()) K = tree_raft_begun F_raft_Copy x1 x2 x3 x4 x5 x6 x7 x8 x9 x10 x11 x12 x13 x14 x15 (fun r => outsRun outs_raft_begun r K) := by kernel_rfl
noncomputable def C_raft_begun : Con := ⟨args_raft_begun, mem_raft_begun, outs_raft_begun, F_raft_begun⟩
theorem k_raft_begun : Known Try.prog fd_raft_begun [(36, C_raft_Copy)] [] := known_of mixT (by kernel_rfl) ⟨ok_raft_Copy, trivial⟩ trivial
theorem fn_raft_begun : FnOK Try.prog an_raft_begun 26 Try.f26 fd_raft_begun := fnOK (by kernel_rfl) (by kernel_rfl) (by kernel_rfl)
theorem ok_raft_begun : ConOK Try.prog 26 C_raft_begun := con_of k_raft_begun (byRef := br_raft_begun) fn_raft_begun rc_raft_begun args_raft_begun mem_raft_begun outs_raft_begun (fun a b K => tree_raft_begun F_raft_Copy a.1.1 a.1.2.1 a.1.2.2.1 a.1.2.2.2.1 a.1.2.2.2.2.1 a.1.2.2.2.2.2.1 a.1.2.2.2.2.2.2.1 a.1.2.2.2.2.2.2.2.1 a.1.2.2.2.2.2.2.2.2.1 a.1.2.2.2.2.2.2.2.2.2.1 a.1.2.2.2.2.2.2.2.2.2.2.1 a.1.2.2.2.2.2.2.2.2.2.2.2.1 a.1.2.2.2.2.2.2.2.2.2.2.2.2.1 a.1.2.2.2.2.2.2.2.2.2.2.2.2.2.1 a.2.1 K) (fun a b => h_raft_begun F_raft_Copy a.1.1 a.1.2.1 a.1.2.2.1 a.1.2.2.2.1 a.1.2.2.2.2.1 a.1.2.2.2.2.2.1 a.1.2.2.2.2.2.2.1 a.1.2.2.2.2.2.2.2.1 a.1.2.2.2.2.2.2.2.2.1 a.1.2.2.2.2.2.2.2.2.2.1 a.1.2.2.2.2.2.2.2.2.2.2.1 a.1.2.2.2.2.2.2.2.2.2.2.2.1 a.1.2.2.2.2.2.2.2.2.2.2.2.2.1 a.1.2.2.2.2.2.2.2.2.2.2.2.2.2.1 a.2.1 _) (fun a b K => n_raft_begun F_raft_Copy a.1.1 a.1.2.1 a.1.2.2.1 a.1.2.2.2.1 a.1.2.2.2.2.1 a.1.2.2.2.2.2.1 a.1.2.2.2.2.2.2.1 a.1.2.2.2.2.2.2.2.1 a.1.2.2.2.2.2.2.2.2.1 a.1.2.2.2.2.2.2.2.2.2.1 a.1.2.2.2.2.2.2.2.2.2.2.1 a.1.2.2.2.2.2.2.2.2.2.2.2.1 a.1.2.2.2.2.2.2.2.2.2.2.2.2.1 a.1.2.2.2.2.2.2.2.2.2.2.2.2.2.1 a.2.1 K)
def an_raft_Tick : Nat → LAnn := fun n => (find n []).getD ⟨0, [], [], [], []⟩
noncomputable def fd_raft_Tick : FD := fdOf Try.prog an_raft_Tick Try.f13
def br_raft_Tick : FuncId → CC := fun f => ⟨([] : List Nat).contains f, (find f []).getD [], (find f []).getD []⟩
def rc_raft_Tick : RC := ⟨true, [], []⟩
theorem h_raft_Tick (F_raft_begun : A_raft_begun → M_raft_begun → Option O_raft_begun) (x1 : Int) (x2 : List Int) (x3 : Int) (x4 : Int) (x5 : Int) (x6 : Int) (x7 : List (Int × Int × ByteArray)) (x8 : ByteArray) (x9 : Int) (x10 : Int) (x11 : Int) (x12 : List Int) (x13 : List (Int × Int × Int)) (x14 : Int) (x15 : Int) {α : Type} (K : SV → Mem → Option α) : callBody (table [(26, ⟨args_raft_begun, mem_raft_begun, outs_raft_begun, F_raft_begun⟩)] []) br_raft_Tick rc_raft_Tick fd_raft_Tick (args_raft_Tick.svs ((x1, (x2, (x3, (x4, (x5, (x6, (x7, (x8, (x9, (x10, (x11, (x12, (x13, (x14, ())))))))))))))), (x15, ()))) (mem_raft_Tick.mem ()) K = tree_raft_Tick F_raft_begun x1 x2 x3 x4 x5 x6 x7 x8 x9 x10 x11 x12 x13 x14 x15 (fun r => outsRun outs_raft_Tick r K) := by kernel_rfl
noncomputable def C_raft_Tick : Con := ⟨args_raft_Tick, mem_raft_Tick, outs_raft_Tick, F_raft_Tick⟩
theorem k_raft_Tick : Known Try.prog fd_raft_Tick [(26, C_raft_begun)] [] := known_of mixT (by kernel_rfl) ⟨ok_raft_begun, trivial⟩ trivial
theorem fn_raft_Tick : FnOK Try.prog an_raft_Tick 13 Try.f13 fd_raft_Tick := fnOK (by kernel_rfl) (by kernel_rfl) (by kernel_rfl)
theorem ok_raft_Tick : ConOK Try.prog 13 C_raft_Tick := con_of k_raft_Tick (byRef := br_raft_Tick) fn_raft_Tick rc_raft_Tick args_raft_Tick mem_raft_Tick outs_raft_Tick (fun a b K => tree_raft_Tick F_raft_begun a.1.1 a.1.2.1 a.1.2.2.1 a.1.2.2.2.1 a.1.2.2.2.2.1 a.1.2.2.2.2.2.1 a.1.2.2.2.2.2.2.1 a.1.2.2.2.2.2.2.2.1 a.1.2.2.2.2.2.2.2.2.1 a.1.2.2.2.2.2.2.2.2.2.1 a.1.2.2.2.2.2.2.2.2.2.2.1 a.1.2.2.2.2.2.2.2.2.2.2.2.1 a.1.2.2.2.2.2.2.2.2.2.2.2.2.1 a.1.2.2.2.2.2.2.2.2.2.2.2.2.2.1 a.2.1 K) (fun a b => h_raft_Tick F_raft_begun a.1.1 a.1.2.1 a.1.2.2.1 a.1.2.2.2.1 a.1.2.2.2.2.1 a.1.2.2.2.2.2.1 a.1.2.2.2.2.2.2.1 a.1.2.2.2.2.2.2.2.1 a.1.2.2.2.2.2.2.2.2.1 a.1.2.2.2.2.2.2.2.2.2.1 a.1.2.2.2.2.2.2.2.2.2.2.1 a.1.2.2.2.2.2.2.2.2.2.2.2.1 a.1.2.2.2.2.2.2.2.2.2.2.2.2.1 a.1.2.2.2.2.2.2.2.2.2.2.2.2.2.1 a.2.1 _) (fun a b K => n_raft_Tick F_raft_begun a.1.1 a.1.2.1 a.1.2.2.1 a.1.2.2.2.1 a.1.2.2.2.2.1 a.1.2.2.2.2.2.1 a.1.2.2.2.2.2.2.1 a.1.2.2.2.2.2.2.2.1 a.1.2.2.2.2.2.2.2.2.1 a.1.2.2.2.2.2.2.2.2.2.1 a.1.2.2.2.2.2.2.2.2.2.2.1 a.1.2.2.2.2.2.2.2.2.2.2.2.1 a.1.2.2.2.2.2.2.2.2.2.2.2.2.1 a.1.2.2.2.2.2.2.2.2.2.2.2.2.2.1 a.2.1 K)
def an_ref18_Copy : Nat → LAnn := fun n => (find n []).getD ⟨0, [], [], [], []⟩
noncomputable def fd_ref18_Copy : FD := fdOf Try.prog an_ref18_Copy Try.f14
def br_ref18_Copy : FuncId → CC := fun f => ⟨([] : List Nat).contains f, (find f []).getD [], (find f []).getD []⟩
def rc_ref18_Copy : RC := ⟨true, [], []⟩
theorem h_ref18_Copy (x1 : Int) (x2 : List Int) (x3 : Int) (x4 : Int) (x5 : Int) (x6 : Int) (x7 : List (Int × Int × ByteArray)) (x8 : ByteArray) (x9 : Int) (x10 : Int) (x11 : Int) (x12 : List Int) (x13 : List (Int × Int × Int)) (x14 : Int) {α : Type} (K : SV → Mem → Option α) : callBody (table [] []) br_ref18_Copy rc_ref18_Copy fd_ref18_Copy (args_ref18_Copy.svs ((x1, (x2, (x3, (x4, (x5, (x6, (x7, (x8, (x9, (x10, (x11, (x12, (x13, (x14, ())))))))))))))), ())) (mem_ref18_Copy.mem ()) K = tree_ref18_Copy x1 x2 x3 x4 x5 x6 x7 x8 x9 x10 x11 x12 x13 x14 (fun r => outsRun outs_ref18_Copy r K) := by kernel_rfl
noncomputable def C_ref18_Copy : Con := ⟨args_ref18_Copy, mem_ref18_Copy, outs_ref18_Copy, F_ref18_Copy⟩
theorem k_ref18_Copy : Known Try.prog fd_ref18_Copy [] [] := known_of mixT (by kernel_rfl) trivial trivial
theorem fn_ref18_Copy : FnOK Try.prog an_ref18_Copy 14 Try.f14 fd_ref18_Copy := fnOK (by kernel_rfl) (by kernel_rfl) (by kernel_rfl)
theorem ok_ref18_Copy : ConOK Try.prog 14 C_ref18_Copy := con_of k_ref18_Copy (byRef := br_ref18_Copy) fn_ref18_Copy rc_ref18_Copy args_ref18_Copy mem_ref18_Copy outs_ref18_Copy (fun a b K => tree_ref18_Copy a.1.1 a.1.2.1 a.1.2.2.1 a.1.2.2.2.1 a.1.2.2.2.2.1 a.1.2.2.2.2.2.1 a.1.2.2.2.2.2.2.1 a.1.2.2.2.2.2.2.2.1 a.1.2.2.2.2.2.2.2.2.1 a.1.2.2.2.2.2.2.2.2.2.1 a.1.2.2.2.2.2.2.2.2.2.2.1 a.1.2.2.2.2.2.2.2.2.2.2.2.1 a.1.2.2.2.2.2.2.2.2.2.2.2.2.1 a.1.2.2.2.2.2.2.2.2.2.2.2.2.2.1 K) (fun a b => h_ref18_Copy a.1.1 a.1.2.1 a.1.2.2.1 a.1.2.2.2.1 a.1.2.2.2.2.1 a.1.2.2.2.2.2.1 a.1.2.2.2.2.2.2.1 a.1.2.2.2.2.2.2.2.1 a.1.2.2.2.2.2.2.2.2.1 a.1.2.2.2.2.2.2.2.2.2.1 a.1.2.2.2.2.2.2.2.2.2.2.1 a.1.2.2.2.2.2.2.2.2.2.2.2.1 a.1.2.2.2.2.2.2.2.2.2.2.2.2.1 a.1.2.2.2.2.2.2.2.2.2.2.2.2.2.1 _) (fun a b K => n_ref18_Copy a.1.1 a.1.2.1 a.1.2.2.1 a.1.2.2.2.1 a.1.2.2.2.2.1 a.1.2.2.2.2.2.1 a.1.2.2.2.2.2.2.1 a.1.2.2.2.2.2.2.2.1 a.1.2.2.2.2.2.2.2.2.1 a.1.2.2.2.2.2.2.2.2.2.1 a.1.2.2.2.2.2.2.2.2.2.2.1 a.1.2.2.2.2.2.2.2.2.2.2.2.1 a.1.2.2.2.2.2.2.2.2.2.2.2.2.1 a.1.2.2.2.2.2.2.2.2.2.2.2.2.2.1 K)
end Go.Proofs.Ytgakbdikappdbaa.S2
