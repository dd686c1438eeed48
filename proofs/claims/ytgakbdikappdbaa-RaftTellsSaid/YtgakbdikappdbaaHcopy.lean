/- The program's functions come to their plain forms, by program. -/
import Derived.Test.YtgakbdikappdbaaGcopy
import Derived.Test.YtgakbdikappdbaaHbase
set_option maxRecDepth 100000
set_option maxHeartbeats 0
set_option linter.unusedVariables false
set_option linter.unusedSimpArgs false
namespace Go.Proofs.Ytgakbdikappdbaa.S2
open Go
def an_slices_Clone_uint64 : Nat → LAnn := fun n => (find n []).getD ⟨0, [], [], [], []⟩
noncomputable def fd_slices_Clone_uint64 : FD := fdOf Try.prog an_slices_Clone_uint64 Try.f19
def br_slices_Clone_uint64 : FuncId → CC := fun f => ⟨([] : List Nat).contains f, (find f []).getD [], (find f []).getD []⟩
def rc_slices_Clone_uint64 : RC := ⟨true, [], []⟩
theorem h_slices_Clone_uint64 (x1 : List Int) {α : Type} (K : SV → Mem → Option α) : callBody (table [] []) br_slices_Clone_uint64 rc_slices_Clone_uint64 fd_slices_Clone_uint64 (args_slices_Clone_uint64.svs (x1, ())) (mem_slices_Clone_uint64.mem ()) K = tree_slices_Clone_uint64 x1 (fun r => outsRun outs_slices_Clone_uint64 r K) := by kernel_rfl
noncomputable def C_slices_Clone_uint64 : Con := ⟨args_slices_Clone_uint64, mem_slices_Clone_uint64, outs_slices_Clone_uint64, F_slices_Clone_uint64⟩
theorem k_slices_Clone_uint64 : Known Try.prog fd_slices_Clone_uint64 [] [] := known_of mixT (by kernel_rfl) trivial trivial
theorem fn_slices_Clone_uint64 : FnOK Try.prog an_slices_Clone_uint64 19 Try.f19 fd_slices_Clone_uint64 := fnOK (by kernel_rfl) (by kernel_rfl) (by kernel_rfl)
theorem h0_slices_Clone_uint64 : callBody (table [] []) br_slices_Clone_uint64 ⟨true, [], []⟩ fd_slices_Clone_uint64 [.nils] [] (fun v m => some (v, m)) = some (.ps 22 (.cons (.int .u64) .nil) [], []) := by kernel_rfl
theorem h1_slices_Clone_uint64 : callBody (table [] []) br_slices_Clone_uint64 ⟨true, [], []⟩ fd_slices_Clone_uint64 [.pe] [] (fun v m => some (v, m)) = some (.ps 22 (.cons (.int .u64) .nil) [], []) := by kernel_rfl
theorem ok_slices_Clone_uint64 : ConOK Try.prog 19 C_slices_Clone_uint64 := by
  have h0 : F_slices_Clone_uint64 ([], ()) () = some ([], ()) := by simp [F_slices_Clone_uint64]
  refine con_slc (e := 22) (r := (.cons (.int .u64) .nil)) (outs := outs_slices_Clone_uint64) (F := F_slices_Clone_uint64) ?_ ?_ ?_
  · intro o ho
    cases Option.some.inj (h0.symm.trans ho)
    exact call_of k_slices_Clone_uint64 fn_slices_Clone_uint64 ⟨true, [], []⟩ h0_slices_Clone_uint64
  · intro o ho
    cases Option.some.inj (h0.symm.trans ho)
    exact call_of k_slices_Clone_uint64 fn_slices_Clone_uint64 ⟨true, [], []⟩ h1_slices_Clone_uint64
  · intro x xs o ho
    have h2 := h_slices_Clone_uint64 (x :: xs) (fun v m => some (v, m))
    have ho : cond (decide ((x :: xs).length * 8 ≤ 140737488355328)) (some (x :: xs, ())) none = some o := ho
    cases hb : decide ((x :: xs).length * 8 ≤ 140737488355328) with
    | false => rw [hb] at ho; cases ho
    | true =>
    rw [hb] at ho
    cases ho
    refine call_of k_slices_Clone_uint64 fn_slices_Clone_uint64 ⟨true, [], []⟩ (h2.trans ?_)
    have hb2 : decide ((0 + (xs.length + 1)) * 8 ≤ 140737488355328) = true := by rw [Nat.zero_add]; exact hb
    show (cond (decide (0 < xs.length + 1)) (cond (decide ((0 + (xs.length + 1)) * 8 ≤ 140737488355328)) (some _) none) none : Option (SV × Mem)) = _
    rw [hb2, decide_eq_true (Nat.succ_pos _)]
    rfl
end Go.Proofs.Ytgakbdikappdbaa.S2
