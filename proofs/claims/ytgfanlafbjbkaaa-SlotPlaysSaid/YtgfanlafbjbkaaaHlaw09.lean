/- The program's functions come to their plain forms, by program. -/
import Derived.Test.YtgfanlafbjbkaaaGlaw09
import Derived.Test.YtgfanlafbjbkaaaHslot
import Derived.Test.YtgfanlafbjbkaaaHrslot
set_option maxRecDepth 100000
set_option maxHeartbeats 0
set_option linter.unusedVariables false
set_option linter.unusedSimpArgs false
namespace Go.Proofs.Ytgfanlafbjbkaaa.S2
open Go
def an_law09_fixed : Nat → LAnn := fun n => (find n []).getD ⟨0, [], [], [], []⟩
noncomputable def fd_law09_fixed : FD := fdOf Try.prog an_law09_fixed Try.f34
def br_law09_fixed : FuncId → CC := fun f => ⟨([35, 36] : List Nat).contains f, (find f [(35, [0, 1, 2, 3, 4, 5, 6, 7, 8, 9, 10, 11]), (36, [0, 1, 2, 3, 4, 5, 6, 7, 8, 9, 10, 11])]).getD [], (find f [(35, [(0, 2, 78, (.cons (.int .i64) (.cons .str .nil)))]), (36, [(0, 2, 78, (.cons (.int .i64) (.cons .str .nil)))])]).getD []⟩
def rc_law09_fixed : RC := ⟨true, [], []⟩
theorem h_law09_fixed (F_slot_Frame : A_slot_Frame → M_slot_Frame → Option O_slot_Frame) (F_disk_New : A_disk_New → M_disk_New → Option O_disk_New) (F_slot_Load : A_slot_Load → M_slot_Load → Option O_slot_Load) (F_slot_Save : A_slot_Save → M_slot_Save → Option O_slot_Save) (F_ref09_Eight : A_ref09_Eight → M_ref09_Eight → Option O_ref09_Eight) (F_ref08_Zeros : A_ref08_Zeros → M_ref08_Zeros → Option O_ref08_Zeros) {α : Type} (K : SV → Mem → Option α) : callBody (table [(30, ⟨args_slot_Frame, mem_slot_Frame, outs_slot_Frame, F_slot_Frame⟩), (13, ⟨args_disk_New, mem_disk_New, outs_disk_New, F_disk_New⟩), (36, ⟨args_slot_Load, mem_slot_Load, outs_slot_Load, F_slot_Load⟩), (35, ⟨args_slot_Save, mem_slot_Save, outs_slot_Save, F_slot_Save⟩), (50, ⟨args_ref09_Eight, mem_ref09_Eight, outs_ref09_Eight, F_ref09_Eight⟩), (29, ⟨args_ref08_Zeros, mem_ref08_Zeros, outs_ref08_Zeros, F_ref08_Zeros⟩)] []) br_law09_fixed rc_law09_fixed fd_law09_fixed (args_law09_fixed.svs ()) (mem_law09_fixed.mem ()) K = tree_law09_fixed F_slot_Frame F_disk_New F_slot_Load F_slot_Save F_ref09_Eight F_ref08_Zeros (fun r => outsRun outs_law09_fixed r K) := by kernel_rfl
noncomputable def C_law09_fixed : Con := ⟨args_law09_fixed, mem_law09_fixed, outs_law09_fixed, F_law09_fixed⟩
theorem k_law09_fixed : Known Try.prog fd_law09_fixed [(30, C_slot_Frame), (13, C_disk_New), (36, C_slot_Load), (35, C_slot_Save), (50, C_ref09_Eight), (29, C_ref08_Zeros)] [] := known_of mixT (by kernel_rfl) ⟨ok_slot_Frame, ok_disk_New, ok_slot_Load, ok_slot_Save, ok_ref09_Eight, ok_ref08_Zeros, trivial⟩ trivial
theorem fn_law09_fixed : FnOK Try.prog an_law09_fixed 34 Try.f34 fd_law09_fixed := fnOK (by kernel_rfl) (by kernel_rfl) (by kernel_rfl)
theorem ok_law09_fixed : ConOK Try.prog 34 C_law09_fixed := con_of k_law09_fixed (byRef := br_law09_fixed) fn_law09_fixed rc_law09_fixed args_law09_fixed mem_law09_fixed outs_law09_fixed (fun a b K => tree_law09_fixed F_slot_Frame F_disk_New F_slot_Load F_slot_Save F_ref09_Eight F_ref08_Zeros K) (fun a b => h_law09_fixed F_slot_Frame F_disk_New F_slot_Load F_slot_Save F_ref09_Eight F_ref08_Zeros _) (fun a b K => n_law09_fixed F_slot_Frame F_disk_New F_slot_Load F_slot_Save F_ref09_Eight F_ref08_Zeros K)

end Go.Proofs.Ytgfanlafbjbkaaa.S2
