/- The program's functions come to their plain forms, by program. -/
import Derived.Test.YtgfanlafbjbkaaaGLSlotFrames
import Derived.Test.YtgfanlafbjbkaaaHlaw09
set_option maxRecDepth 100000
set_option maxHeartbeats 0
set_option linter.unusedVariables false
set_option linter.unusedSimpArgs false
namespace Go.Proofs.Ytgfanlafbjbkaaa.S2
open Go
def an_law09_SlotFrames : Nat → LAnn := fun n => (find n []).getD ⟨0, [], [], [], []⟩
noncomputable def fd_law09_SlotFrames : FD := fdOf Try.prog an_law09_SlotFrames Try.f8
def br_law09_SlotFrames : FuncId → CC := fun f => ⟨([] : List Nat).contains f, (find f []).getD [], (find f []).getD []⟩
def rc_law09_SlotFrames : RC := ⟨true, [], []⟩
theorem h_law09_SlotFrames (F_slot_Frame : A_slot_Frame → M_slot_Frame → Option O_slot_Frame) (F_ref09_Frame : A_ref09_Frame → M_ref09_Frame → Option O_ref09_Frame) (F_slot_Unframe : A_slot_Unframe → M_slot_Unframe → Option O_slot_Unframe) (F_ref09_Unframe : A_ref09_Unframe → M_ref09_Unframe → Option O_ref09_Unframe) (F_law09_fixed : A_law09_fixed → M_law09_fixed → Option O_law09_fixed) (x1 : Int) (x2 : ByteArray) (x3 : Int) (x4 : ByteArray) {α : Type} (K : SV → Mem → Option α) : callBody (table [(30, ⟨args_slot_Frame, mem_slot_Frame, outs_slot_Frame, F_slot_Frame⟩), (31, ⟨args_ref09_Frame, mem_ref09_Frame, outs_ref09_Frame, F_ref09_Frame⟩), (32, ⟨args_slot_Unframe, mem_slot_Unframe, outs_slot_Unframe, F_slot_Unframe⟩), (33, ⟨args_ref09_Unframe, mem_ref09_Unframe, outs_ref09_Unframe, F_ref09_Unframe⟩), (34, ⟨args_law09_fixed, mem_law09_fixed, outs_law09_fixed, F_law09_fixed⟩)] []) br_law09_SlotFrames rc_law09_SlotFrames fd_law09_SlotFrames (args_law09_SlotFrames.svs ((x1, (x2, (x3, ()))), (x4, ()))) (mem_law09_SlotFrames.mem ()) K = tree_law09_SlotFrames F_slot_Frame F_ref09_Frame F_slot_Unframe F_ref09_Unframe F_law09_fixed x1 x2 x3 x4 (fun r => outsRun outs_law09_SlotFrames r K) := by kernel_rfl
noncomputable def C_law09_SlotFrames : Con := ⟨args_law09_SlotFrames, mem_law09_SlotFrames, outs_law09_SlotFrames, F_law09_SlotFrames⟩
theorem k_law09_SlotFrames : Known Try.prog fd_law09_SlotFrames [(30, C_slot_Frame), (31, C_ref09_Frame), (32, C_slot_Unframe), (33, C_ref09_Unframe), (34, C_law09_fixed)] [] := known_of mixT (by kernel_rfl) ⟨ok_slot_Frame, ok_ref09_Frame, ok_slot_Unframe, ok_ref09_Unframe, ok_law09_fixed, trivial⟩ trivial
theorem fn_law09_SlotFrames : FnOK Try.prog an_law09_SlotFrames 8 Try.f8 fd_law09_SlotFrames := fnOK (by kernel_rfl) (by kernel_rfl) (by kernel_rfl)
theorem ok_law09_SlotFrames : ConOK Try.prog 8 C_law09_SlotFrames := con_of k_law09_SlotFrames (byRef := br_law09_SlotFrames) fn_law09_SlotFrames rc_law09_SlotFrames args_law09_SlotFrames mem_law09_SlotFrames outs_law09_SlotFrames (fun a b K => tree_law09_SlotFrames F_slot_Frame F_ref09_Frame F_slot_Unframe F_ref09_Unframe F_law09_fixed a.1.1 a.1.2.1 a.1.2.2.1 a.2.1 K) (fun a b => h_law09_SlotFrames F_slot_Frame F_ref09_Frame F_slot_Unframe F_ref09_Unframe F_law09_fixed a.1.1 a.1.2.1 a.1.2.2.1 a.2.1 _) (fun a b K => n_law09_SlotFrames F_slot_Frame F_ref09_Frame F_slot_Unframe F_ref09_Unframe F_law09_fixed a.1.1 a.1.2.1 a.1.2.2.1 a.2.1 K)

end Go.Proofs.Ytgfanlafbjbkaaa.S2
