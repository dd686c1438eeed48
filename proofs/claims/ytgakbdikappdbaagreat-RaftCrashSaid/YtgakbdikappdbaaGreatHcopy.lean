/- The program's functions come to their plain forms, by program. -/
import Derived.Test.YtgakbdikappdbaaGreatGcopy
import Derived.Test.YtgakbdikappdbaaGreatHbase
set_option maxRecDepth 100000
set_option maxHeartbeats 0
set_option linter.unusedVariables false
set_option linter.unusedSimpArgs false
namespace Go.Proofs.YtgakbdikappdbaaGreat.S2
open Go
def an_slices_Clone_uint64 : Nat → LAnn := fun n => (find n []).getD ⟨0, [], [], [], []⟩
noncomputable def fd_slices_Clone_uint64 : FD := fdOf Tryz.prog an_slices_Clone_uint64 Tryz.f35
def br_slices_Clone_uint64 : FuncId → CC := fun f => ⟨([] : List Nat).contains f, (find f []).getD [], (find f []).getD []⟩
def rc_slices_Clone_uint64 : RC := ⟨true, [], []⟩
theorem h_slices_Clone_uint64 (x1 : List Int) {α : Type} (K : SV → Mem → Option α) : callBody (table [] []) br_slices_Clone_uint64 rc_slices_Clone_uint64 fd_slices_Clone_uint64 (args_slices_Clone_uint64.svs (x1, ())) (mem_slices_Clone_uint64.mem ()) K = tree_slices_Clone_uint64 x1 (fun r => outsRun outs_slices_Clone_uint64 r K) := by kernel_rfl
noncomputable def C_slices_Clone_uint64 : Con := ⟨args_slices_Clone_uint64, mem_slices_Clone_uint64, outs_slices_Clone_uint64, F_slices_Clone_uint64⟩
theorem k_slices_Clone_uint64 : Known Tryz.prog fd_slices_Clone_uint64 [] [] := known_of mixT (by kernel_rfl) trivial trivial
theorem fn_slices_Clone_uint64 : FnOK Tryz.prog an_slices_Clone_uint64 35 Tryz.f35 fd_slices_Clone_uint64 := fnOK (by kernel_rfl) (by kernel_rfl) (by kernel_rfl)
theorem h0_slices_Clone_uint64 : callBody (table [] []) br_slices_Clone_uint64 ⟨true, [], []⟩ fd_slices_Clone_uint64 [.nils] [] (fun v m => some (v, m)) = some (.ps 22 (.cons (.int .u64) .nil) [], []) := by kernel_rfl
theorem h1_slices_Clone_uint64 : callBody (table [] []) br_slices_Clone_uint64 ⟨true, [], []⟩ fd_slices_Clone_uint64 [.pe] [] (fun v m => some (v, m)) = some (.ps 22 (.cons (.int .u64) .nil) [], []) := by kernel_rfl
theorem ok_slices_Clone_uint64 : ConOK Tryz.prog 35 C_slices_Clone_uint64 := by
  have h0 : F_slices_Clone_uint64 ([], ()) () = some ([], ()) := by simp [F_slices_Clone_uint64]
  refine con_slc (e := 22) (r := (.cons (.int .u64) .nil)) (outs := outs_slices_Clone_uint64) (F := F_slices_Clone_uint64) ?_ ?_ ?_
  · intro o ho
    cases Option.some.inj (h0.symm.trans ho)
    exact call_of k_slices_Clone_uint64 fn_slices_Clone_uint64 ⟨true, [], []⟩ h0_slices_Clone_uint64
  · intro o ho
    cases Option.some.inj (h0.symm.trans ho)
    exact call_of k_slices_Clone_uint64 fn_slices_Clone_uint64 ⟨true, [], []⟩ h1_slices_Clone_uint64
  · intro x xs o ho
    have h2 := h_slices_Clone_uint64 (x :: xs) (fun v m => some (v, m))
    have ho : cond (decide ((x :: xs).length * 8 ≤ 140737488355328)) (some (x :: xs, ())) none = some o := ho
    cases hb : decide ((x :: xs).length * 8 ≤ 140737488355328) with
    | false => rw [hb] at ho; cases ho
    | true =>
    rw [hb] at ho
    cases ho
    refine call_of k_slices_Clone_uint64 fn_slices_Clone_uint64 ⟨true, [], []⟩ (h2.trans ?_)
    have hb2 : decide ((0 + (xs.length + 1)) * 8 ≤ 140737488355328) = true := by rw [Nat.zero_add]; exact hb
    show (cond (decide (0 < xs.length + 1)) (cond (decide ((0 + (xs.length + 1)) * 8 ≤ 140737488355328)) (some _) none) none : Option (SV × Mem)) = _
    rw [hb2, decide_eq_true (Nat.succ_pos _)]
    rfl
def an_slices_Clone_api_Peer : Nat → LAnn := fun n => (find n []).getD ⟨0, [], [], [], []⟩
noncomputable def fd_slices_Clone_api_Peer : FD := fdOf Tryz.prog an_slices_Clone_api_Peer Tryz.f36
def br_slices_Clone_api_Peer : FuncId → CC := fun f => ⟨([] : List Nat).contains f, (find f []).getD [], (find f []).getD []⟩
def rc_slices_Clone_api_Peer : RC := ⟨true, [], []⟩
theorem h_slices_Clone_api_Peer (x1 : List (Int × Int × Int)) {α : Type} (K : SV → Mem → Option α) : callBody (table [] []) br_slices_Clone_api_Peer rc_slices_Clone_api_Peer fd_slices_Clone_api_Peer (args_slices_Clone_api_Peer.svs (x1, ())) (mem_slices_Clone_api_Peer.mem ()) K = tree_slices_Clone_api_Peer x1 (fun r => outsRun outs_slices_Clone_api_Peer r K) := by kernel_rfl
noncomputable def C_slices_Clone_api_Peer : Con := ⟨args_slices_Clone_api_Peer, mem_slices_Clone_api_Peer, outs_slices_Clone_api_Peer, F_slices_Clone_api_Peer⟩
theorem k_slices_Clone_api_Peer : Known Tryz.prog fd_slices_Clone_api_Peer [] [] := known_of mixT (by kernel_rfl) trivial trivial
theorem fn_slices_Clone_api_Peer : FnOK Tryz.prog an_slices_Clone_api_Peer 36 Tryz.f36 fd_slices_Clone_api_Peer := fnOK (by kernel_rfl) (by kernel_rfl) (by kernel_rfl)
theorem h0_slices_Clone_api_Peer : callBody (table [] []) br_slices_Clone_api_Peer ⟨true, [], []⟩ fd_slices_Clone_api_Peer [.nils] [] (fun v m => some (v, m)) = some (.ps 54 (.cons (.int .u64) (.cons (.int .u64) (.cons (.int .u64) .nil))) [], []) := by kernel_rfl
theorem h1_slices_Clone_api_Peer : callBody (table [] []) br_slices_Clone_api_Peer ⟨true, [], []⟩ fd_slices_Clone_api_Peer [.pe] [] (fun v m => some (v, m)) = some (.ps 54 (.cons (.int .u64) (.cons (.int .u64) (.cons (.int .u64) .nil))) [], []) := by kernel_rfl
theorem ok_slices_Clone_api_Peer : ConOK Tryz.prog 36 C_slices_Clone_api_Peer := by
  have h0 : F_slices_Clone_api_Peer ([], ()) () = some ([], ()) := by simp [F_slices_Clone_api_Peer]
  refine con_slc (e := 54) (r := (.cons (.int .u64) (.cons (.int .u64) (.cons (.int .u64) .nil)))) (outs := outs_slices_Clone_api_Peer) (F := F_slices_Clone_api_Peer) ?_ ?_ ?_
  · intro o ho
    cases Option.some.inj (h0.symm.trans ho)
    exact call_of k_slices_Clone_api_Peer fn_slices_Clone_api_Peer ⟨true, [], []⟩ h0_slices_Clone_api_Peer
  · intro o ho
    cases Option.some.inj (h0.symm.trans ho)
    exact call_of k_slices_Clone_api_Peer fn_slices_Clone_api_Peer ⟨true, [], []⟩ h1_slices_Clone_api_Peer
  · intro x xs o ho
    have h2 := h_slices_Clone_api_Peer (x :: xs) (fun v m => some (v, m))
    have ho : cond (decide ((x :: xs).length * 24 ≤ 140737488355328)) (some (x :: xs, ())) none = some o := ho
    cases hb : decide ((x :: xs).length * 24 ≤ 140737488355328) with
    | false => rw [hb] at ho; cases ho
    | true =>
    rw [hb] at ho
    cases ho
    refine call_of k_slices_Clone_api_Peer fn_slices_Clone_api_Peer ⟨true, [], []⟩ (h2.trans ?_)
    have hb2 : decide ((0 + (xs.length + 1)) * 24 ≤ 140737488355328) = true := by rw [Nat.zero_add]; exact hb
    show (cond (decide (0 < xs.length + 1)) (cond (decide ((0 + (xs.length + 1)) * 24 ≤ 140737488355328)) (some _) none) none : Option (SV × Mem)) = _
    rw [hb2, decide_eq_true (Nat.succ_pos _)]
    rfl
def an_slices_Clone_api_Entry : Nat → LAnn := fun n => (find n []).getD ⟨0, [], [], [], []⟩
noncomputable def fd_slices_Clone_api_Entry : FD := fdOf Tryz.prog an_slices_Clone_api_Entry Tryz.f37
def br_slices_Clone_api_Entry : FuncId → CC := fun f => ⟨([] : List Nat).contains f, (find f []).getD [], (find f []).getD []⟩
def rc_slices_Clone_api_Entry : RC := ⟨true, [], []⟩
theorem h_slices_Clone_api_Entry (x1 : List (Int × Int × ByteArray)) {α : Type} (K : SV → Mem → Option α) : callBody (table [] []) br_slices_Clone_api_Entry rc_slices_Clone_api_Entry fd_slices_Clone_api_Entry (args_slices_Clone_api_Entry.svs (x1, ())) (mem_slices_Clone_api_Entry.mem ()) K = tree_slices_Clone_api_Entry x1 (fun r => outsRun outs_slices_Clone_api_Entry r K) := by kernel_rfl
noncomputable def C_slices_Clone_api_Entry : Con := ⟨args_slices_Clone_api_Entry, mem_slices_Clone_api_Entry, outs_slices_Clone_api_Entry, F_slices_Clone_api_Entry⟩
theorem k_slices_Clone_api_Entry : Known Tryz.prog fd_slices_Clone_api_Entry [] [] := known_of mixT (by kernel_rfl) trivial trivial
theorem fn_slices_Clone_api_Entry : FnOK Tryz.prog an_slices_Clone_api_Entry 37 Tryz.f37 fd_slices_Clone_api_Entry := fnOK (by kernel_rfl) (by kernel_rfl) (by kernel_rfl)
theorem h0_slices_Clone_api_Entry : callBody (table [] []) br_slices_Clone_api_Entry ⟨true, [], []⟩ fd_slices_Clone_api_Entry [.nils] [] (fun v m => some (v, m)) = some (.ps 75 (.cons (.int .u64) (.cons (.int .i64) (.cons .str .nil))) [], []) := by kernel_rfl
theorem h1_slices_Clone_api_Entry : callBody (table [] []) br_slices_Clone_api_Entry ⟨true, [], []⟩ fd_slices_Clone_api_Entry [.pe] [] (fun v m => some (v, m)) = some (.ps 75 (.cons (.int .u64) (.cons (.int .i64) (.cons .str .nil))) [], []) := by kernel_rfl
theorem ok_slices_Clone_api_Entry : ConOK Tryz.prog 37 C_slices_Clone_api_Entry := by
  have h0 : F_slices_Clone_api_Entry ([], ()) () = some ([], ()) := by simp [F_slices_Clone_api_Entry]
  refine con_slc (e := 75) (r := (.cons (.int .u64) (.cons (.int .i64) (.cons .str .nil)))) (outs := outs_slices_Clone_api_Entry) (F := F_slices_Clone_api_Entry) ?_ ?_ ?_
  · intro o ho
    cases Option.some.inj (h0.symm.trans ho)
    exact call_of k_slices_Clone_api_Entry fn_slices_Clone_api_Entry ⟨true, [], []⟩ h0_slices_Clone_api_Entry
  · intro o ho
    cases Option.some.inj (h0.symm.trans ho)
    exact call_of k_slices_Clone_api_Entry fn_slices_Clone_api_Entry ⟨true, [], []⟩ h1_slices_Clone_api_Entry
  · intro x xs o ho
    have h2 := h_slices_Clone_api_Entry (x :: xs) (fun v m => some (v, m))
    have ho : cond (decide ((x :: xs).length * 32 ≤ 140737488355328)) (some (x :: xs, ())) none = some o := ho
    cases hb : decide ((x :: xs).length * 32 ≤ 140737488355328) with
    | false => rw [hb] at ho; cases ho
    | true =>
    rw [hb] at ho
    cases ho
    refine call_of k_slices_Clone_api_Entry fn_slices_Clone_api_Entry ⟨true, [], []⟩ (h2.trans ?_)
    have hb2 : decide ((0 + (xs.length + 1)) * 32 ≤ 140737488355328) = true := by rw [Nat.zero_add]; exact hb
    show (cond (decide (0 < xs.length + 1)) (cond (decide ((0 + (xs.length + 1)) * 32 ≤ 140737488355328)) (some _) none) none : Option (SV × Mem)) = _
    rw [hb2, decide_eq_true (Nat.succ_pos _)]
    rfl
def an_raft_Copy : Nat → LAnn := fun n => (find n []).getD ⟨0, [], [], [], []⟩
noncomputable def fd_raft_Copy : FD := fdOf Tryz.prog an_raft_Copy Tryz.f17
def br_raft_Copy : FuncId → CC := fun f => ⟨([] : List Nat).contains f, (find f []).getD [], (find f []).getD []⟩
def rc_raft_Copy : RC := ⟨true, [], []⟩
theorem h_raft_Copy (F_slices_Clone_uint64 : A_slices_Clone_uint64 → M_slices_Clone_uint64 → Option O_slices_Clone_uint64) (F_slices_Clone_api_Peer : A_slices_Clone_api_Peer → M_slices_Clone_api_Peer → Option O_slices_Clone_api_Peer) (F_slices_Clone_api_Entry : A_slices_Clone_api_Entry → M_slices_Clone_api_Entry → Option O_slices_Clone_api_Entry) (x1 : Int) (x2 : List Int) (x3 : Int) (x4 : Int) (x5 : Int) (x6 : Int) (x7 : List (Int × Int × ByteArray)) (x8 : ByteArray) (x9 : Int) (x10 : Int) (x11 : Int) (x12 : List Int) (x13 : List (Int × Int × Int)) (x14 : Int) {α : Type} (K : SV → Mem → Option α) : callBody (table [(35, ⟨args_slices_Clone_uint64, mem_slices_Clone_uint64, outs_slices_Clone_uint64, F_slices_Clone_uint64⟩), (36, ⟨args_slices_Clone_api_Peer, mem_slices_Clone_api_Peer, outs_slices_Clone_api_Peer, F_slices_Clone_api_Peer⟩), (37, ⟨args_slices_Clone_api_Entry, mem_slices_Clone_api_Entry, outs_slices_Clone_api_Entry, F_slices_Clone_api_Entry⟩)] []) br_raft_Copy rc_raft_Copy fd_raft_Copy (args_raft_Copy.svs ((x1, (x2, (x3, (x4, (x5, (x6, (x7, (x8, (x9, (x10, (x11, (x12, (x13, (x14, ())))))))))))))), ())) (mem_raft_Copy.mem ()) K = tree_raft_Copy F_slices_Clone_uint64 F_slices_Clone_api_Peer F_slices_Clone_api_Entry x1 x2 x3 x4 x5 x6 x7 x8 x9 x10 x11 x12 x13 x14 (fun r => outsRun outs_raft_Copy r K) := by kernel_rfl
noncomputable def C_raft_Copy : Con := ⟨args_raft_Copy, mem_raft_Copy, outs_raft_Copy, F_raft_Copy⟩
theorem k_raft_Copy : Known Tryz.prog fd_raft_Copy [(35, C_slices_Clone_uint64), (36, C_slices_Clone_api_Peer), (37, C_slices_Clone_api_Entry)] [] := known_of mixT (by kernel_rfl) ⟨ok_slices_Clone_uint64, ok_slices_Clone_api_Peer, ok_slices_Clone_api_Entry, trivial⟩ trivial
theorem fn_raft_Copy : FnOK Tryz.prog an_raft_Copy 17 Tryz.f17 fd_raft_Copy := fnOK (by kernel_rfl) (by kernel_rfl) (by kernel_rfl)
theorem ok_raft_Copy : ConOK Tryz.prog 17 C_raft_Copy := con_of k_raft_Copy (byRef := br_raft_Copy) fn_raft_Copy rc_raft_Copy args_raft_Copy mem_raft_Copy outs_raft_Copy (fun a b K => tree_raft_Copy F_slices_Clone_uint64 F_slices_Clone_api_Peer F_slices_Clone_api_Entry a.1.1 a.1.2.1 a.1.2.2.1 a.1.2.2.2.1 a.1.2.2.2.2.1 a.1.2.2.2.2.2.1 a.1.2.2.2.2.2.2.1 a.1.2.2.2.2.2.2.2.1 a.1.2.2.2.2.2.2.2.2.1 a.1.2.2.2.2.2.2.2.2.2.1 a.1.2.2.2.2.2.2.2.2.2.2.1 a.1.2.2.2.2.2.2.2.2.2.2.2.1 a.1.2.2.2.2.2.2.2.2.2.2.2.2.1 a.1.2.2.2.2.2.2.2.2.2.2.2.2.2.1 K) (fun a b => h_raft_Copy F_slices_Clone_uint64 F_slices_Clone_api_Peer F_slices_Clone_api_Entry a.1.1 a.1.2.1 a.1.2.2.1 a.1.2.2.2.1 a.1.2.2.2.2.1 a.1.2.2.2.2.2.1 a.1.2.2.2.2.2.2.1 a.1.2.2.2.2.2.2.2.1 a.1.2.2.2.2.2.2.2.2.1 a.1.2.2.2.2.2.2.2.2.2.1 a.1.2.2.2.2.2.2.2.2.2.2.1 a.1.2.2.2.2.2.2.2.2.2.2.2.1 a.1.2.2.2.2.2.2.2.2.2.2.2.2.1 a.1.2.2.2.2.2.2.2.2.2.2.2.2.2.1 _) (fun a b K => n_raft_Copy F_slices_Clone_uint64 F_slices_Clone_api_Peer F_slices_Clone_api_Entry a.1.1 a.1.2.1 a.1.2.2.1 a.1.2.2.2.1 a.1.2.2.2.2.1 a.1.2.2.2.2.2.1 a.1.2.2.2.2.2.2.1 a.1.2.2.2.2.2.2.2.1 a.1.2.2.2.2.2.2.2.2.1 a.1.2.2.2.2.2.2.2.2.2.1 a.1.2.2.2.2.2.2.2.2.2.2.1 a.1.2.2.2.2.2.2.2.2.2.2.2.1 a.1.2.2.2.2.2.2.2.2.2.2.2.2.1 a.1.2.2.2.2.2.2.2.2.2.2.2.2.2.1 K)
def an_raft_begun : Nat → LAnn := fun n => (find n []).getD ⟨0, [], [], [], []⟩
noncomputable def fd_raft_begun : FD := fdOf Tryz.prog an_raft_begun Tryz.f19
def br_raft_begun : FuncId → CC := fun f => ⟨([] : List Nat).contains f, (find f []).getD [], (find f []).getD []⟩
def rc_raft_begun : RC := ⟨true, [], []⟩
theorem h_raft_begun (F_raft_Copy : A_raft_Copy → M_raft_Copy → Option O_raft_Copy) (x1 : Int) (x2 : List Int) (x3 : Int) (x4 : Int) (x5 : Int) (x6 : Int) (x7 : List (Int × Int × ByteArray)) (x8 : ByteArray) (x9 : Int) (x10 : Int) (x11 : Int) (x12 : List Int) (x13 : List (Int × Int × Int)) (x14 : Int) (x15 : Int) {α : Type} (K : SV → Mem → Option α) : callBody (table [(17, ⟨args_raft_Copy, mem_raft_Copy, outs_raft_Copy, F_raft_Copy⟩)] []) br_raft_begun rc_raft_begun fd_raft_begun (args_raft_begun.svs ((x1, (x2, (x3, (x4, (x5, (x6, (x7, (x8, (x9, (x10, (x11, (x12, (x13, (x14, ())))))))))))))), (x15, ()))) (mem_raft_begun.mem ()) K = tree_raft_begun F_raft_Copy x1 x2 x3 x4 x5 x6 x7 x8 x9 x10 x11 x12 x13 x14 x15 (fun r => outsRun outs_raft_begun r K) := by kernel_rfl
noncomputable def C_raft_begun : Con := ⟨args_raft_begun, mem_raft_begun, outs_raft_begun, F_raft_begun⟩
theorem k_raft_begun : Known Tryz.prog fd_raft_begun [(17, C_raft_Copy)] [] := known_of mixT (by kernel_rfl) ⟨ok_raft_Copy, trivial⟩ trivial
theorem fn_raft_begun : FnOK Tryz.prog an_raft_begun 19 Tryz.f19 fd_raft_begun := fnOK (by kernel_rfl) (by kernel_rfl) (by kernel_rfl)
theorem ok_raft_begun : ConOK Tryz.prog 19 C_raft_begun := con_of k_raft_begun (byRef := br_raft_begun) fn_raft_begun rc_raft_begun args_raft_begun mem_raft_begun outs_raft_begun (fun a b K => tree_raft_begun F_raft_Copy a.1.1 a.1.2.1 a.1.2.2.1 a.1.2.2.2.1 a.1.2.2.2.2.1 a.1.2.2.2.2.2.1 a.1.2.2.2.2.2.2.1 a.1.2.2.2.2.2.2.2.1 a.1.2.2.2.2.2.2.2.2.1 a.1.2.2.2.2.2.2.2.2.2.1 a.1.2.2.2.2.2.2.2.2.2.2.1 a.1.2.2.2.2.2.2.2.2.2.2.2.1 a.1.2.2.2.2.2.2.2.2.2.2.2.2.1 a.1.2.2.2.2.2.2.2.2.2.2.2.2.2.1 a.2.1 K) (fun a b => h_raft_begun F_raft_Copy a.1.1 a.1.2.1 a.1.2.2.1 a.1.2.2.2.1 a.1.2.2.2.2.1 a.1.2.2.2.2.2.1 a.1.2.2.2.2.2.2.1 a.1.2.2.2.2.2.2.2.1 a.1.2.2.2.2.2.2.2.2.1 a.1.2.2.2.2.2.2.2.2.2.1 a.1.2.2.2.2.2.2.2.2.2.2.1 a.1.2.2.2.2.2.2.2.2.2.2.2.1 a.1.2.2.2.2.2.2.2.2.2.2.2.2.1 a.1.2.2.2.2.2.2.2.2.2.2.2.2.2.1 a.2.1 _) (fun a b K => n_raft_begun F_raft_Copy a.1.1 a.1.2.1 a.1.2.2.1 a.1.2.2.2.1 a.1.2.2.2.2.1 a.1.2.2.2.2.2.1 a.1.2.2.2.2.2.2.1 a.1.2.2.2.2.2.2.2.1 a.1.2.2.2.2.2.2.2.2.1 a.1.2.2.2.2.2.2.2.2.2.1 a.1.2.2.2.2.2.2.2.2.2.2.1 a.1.2.2.2.2.2.2.2.2.2.2.2.1 a.1.2.2.2.2.2.2.2.2.2.2.2.2.1 a.1.2.2.2.2.2.2.2.2.2.2.2.2.2.1 a.2.1 K)
def an_raft_Restart : Nat → LAnn := fun n => (find n []).getD ⟨0, [], [], [], []⟩
noncomputable def fd_raft_Restart : FD := fdOf Tryz.prog an_raft_Restart Tryz.f6
def br_raft_Restart : FuncId → CC := fun f => ⟨([] : List Nat).contains f, (find f []).getD [], (find f []).getD []⟩
def rc_raft_Restart : RC := ⟨true, [], []⟩
theorem h_raft_Restart (F_raft_Copy : A_raft_Copy → M_raft_Copy → Option O_raft_Copy) (x1 : Int) (x2 : List Int) (x3 : Int) (x4 : Int) (x5 : Int) (x6 : Int) (x7 : List (Int × Int × ByteArray)) (x8 : ByteArray) (x9 : Int) (x10 : Int) (x11 : Int) (x12 : List Int) (x13 : List (Int × Int × Int)) (x14 : Int) {α : Type} (K : SV → Mem → Option α) : callBody (table [(17, ⟨args_raft_Copy, mem_raft_Copy, outs_raft_Copy, F_raft_Copy⟩)] []) br_raft_Restart rc_raft_Restart fd_raft_Restart (args_raft_Restart.svs ((x1, (x2, (x3, (x4, (x5, (x6, (x7, (x8, (x9, (x10, (x11, (x12, (x13, (x14, ())))))))))))))), ())) (mem_raft_Restart.mem ()) K = tree_raft_Restart F_raft_Copy x1 x2 x3 x4 x5 x6 x7 x8 x9 x10 x11 x12 x13 x14 (fun r => outsRun outs_raft_Restart r K) := by kernel_rfl
noncomputable def C_raft_Restart : Con := ⟨args_raft_Restart, mem_raft_Restart, outs_raft_Restart, F_raft_Restart⟩
theorem k_raft_Restart : Known Tryz.prog fd_raft_Restart [(17, C_raft_Copy)] [] := known_of mixT (by kernel_rfl) ⟨ok_raft_Copy, trivial⟩ trivial
theorem fn_raft_Restart : FnOK Tryz.prog an_raft_Restart 6 Tryz.f6 fd_raft_Restart := fnOK (by kernel_rfl) (by kernel_rfl) (by kernel_rfl)
theorem ok_raft_Restart : ConOK Tryz.prog 6 C_raft_Restart := con_of k_raft_Restart (byRef := br_raft_Restart) fn_raft_Restart rc_raft_Restart args_raft_Restart mem_raft_Restart outs_raft_Restart (fun a b K => tree_raft_Restart F_raft_Copy a.1.1 a.1.2.1 a.1.2.2.1 a.1.2.2.2.1 a.1.2.2.2.2.1 a.1.2.2.2.2.2.1 a.1.2.2.2.2.2.2.1 a.1.2.2.2.2.2.2.2.1 a.1.2.2.2.2.2.2.2.2.1 a.1.2.2.2.2.2.2.2.2.2.1 a.1.2.2.2.2.2.2.2.2.2.2.1 a.1.2.2.2.2.2.2.2.2.2.2.2.1 a.1.2.2.2.2.2.2.2.2.2.2.2.2.1 a.1.2.2.2.2.2.2.2.2.2.2.2.2.2.1 K) (fun a b => h_raft_Restart F_raft_Copy a.1.1 a.1.2.1 a.1.2.2.1 a.1.2.2.2.1 a.1.2.2.2.2.1 a.1.2.2.2.2.2.1 a.1.2.2.2.2.2.2.1 a.1.2.2.2.2.2.2.2.1 a.1.2.2.2.2.2.2.2.2.1 a.1.2.2.2.2.2.2.2.2.2.1 a.1.2.2.2.2.2.2.2.2.2.2.1 a.1.2.2.2.2.2.2.2.2.2.2.2.1 a.1.2.2.2.2.2.2.2.2.2.2.2.2.1 a.1.2.2.2.2.2.2.2.2.2.2.2.2.2.1 _) (fun a b K => n_raft_Restart F_raft_Copy a.1.1 a.1.2.1 a.1.2.2.1 a.1.2.2.2.1 a.1.2.2.2.2.1 a.1.2.2.2.2.2.1 a.1.2.2.2.2.2.2.1 a.1.2.2.2.2.2.2.2.1 a.1.2.2.2.2.2.2.2.2.1 a.1.2.2.2.2.2.2.2.2.2.1 a.1.2.2.2.2.2.2.2.2.2.2.1 a.1.2.2.2.2.2.2.2.2.2.2.2.1 a.1.2.2.2.2.2.2.2.2.2.2.2.2.1 a.1.2.2.2.2.2.2.2.2.2.2.2.2.2.1 K)
end Go.Proofs.YtgakbdikappdbaaGreat.S2
