/- The program's functions come to their plain forms, by program. -/
import Derived.Test.YtgfanlafbjbkaaaGLSlotTorn
import Derived.Test.YtgfanlafbjbkaaaHlaw09
set_option maxRecDepth 100000
set_option maxHeartbeats 0
set_option linter.unusedVariables false
set_option linter.unusedSimpArgs false
namespace Go.Proofs.Ytgfanlafbjbkaaa.S2
open Go
def an_law09_SlotTorn : Nat → LAnn := fun n => (find n []).getD ⟨0, [], [], [], []⟩
noncomputable def fd_law09_SlotTorn : FD := fdOf Try.prog an_law09_SlotTorn Try.f9
def br_law09_SlotTorn : FuncId → CC := fun f => ⟨([] : List Nat).contains f, (find f []).getD [], (find f []).getD []⟩
def rc_law09_SlotTorn : RC := ⟨true, [], []⟩
theorem h_law09_SlotTorn (F_slot_Frame : A_slot_Frame → M_slot_Frame → Option O_slot_Frame) (F_ref08_Zeros : A_ref08_Zeros → M_ref08_Zeros → Option O_ref08_Zeros) (F_law09_fixed : A_law09_fixed → M_law09_fixed → Option O_law09_fixed) (F_slot_Unframe : A_slot_Unframe → M_slot_Unframe → Option O_slot_Unframe) (x1 : Int) (x2 : ByteArray) (x3 : Int) (x4 : Int) (x5 : ByteArray) (x6 : Int) (x7 : Int) {α : Type} (K : SV → Mem → Option α) : callBody (table [(30, ⟨args_slot_Frame, mem_slot_Frame, outs_slot_Frame, F_slot_Frame⟩), (29, ⟨args_ref08_Zeros, mem_ref08_Zeros, outs_ref08_Zeros, F_ref08_Zeros⟩), (34, ⟨args_law09_fixed, mem_law09_fixed, outs_law09_fixed, F_law09_fixed⟩), (32, ⟨args_slot_Unframe, mem_slot_Unframe, outs_slot_Unframe, F_slot_Unframe⟩)] []) br_law09_SlotTorn rc_law09_SlotTorn fd_law09_SlotTorn (args_law09_SlotTorn.svs ((x1, (x2, (x3, ()))), ((x4, (x5, (x6, ()))), (x7, ())))) (mem_law09_SlotTorn.mem ()) K = tree_law09_SlotTorn F_slot_Frame F_ref08_Zeros F_law09_fixed F_slot_Unframe x1 x2 x3 x4 x5 x6 x7 (fun r => outsRun outs_law09_SlotTorn r K) := by kernel_rfl
noncomputable def C_law09_SlotTorn : Con := ⟨args_law09_SlotTorn, mem_law09_SlotTorn, outs_law09_SlotTorn, F_law09_SlotTorn⟩
theorem k_law09_SlotTorn : Known Try.prog fd_law09_SlotTorn [(30, C_slot_Frame), (29, C_ref08_Zeros), (34, C_law09_fixed), (32, C_slot_Unframe)] [] := known_of mixT (by kernel_rfl) ⟨ok_slot_Frame, ok_ref08_Zeros, ok_law09_fixed, ok_slot_Unframe, trivial⟩ trivial
theorem fn_law09_SlotTorn : FnOK Try.prog an_law09_SlotTorn 9 Try.f9 fd_law09_SlotTorn := fnOK (by kernel_rfl) (by kernel_rfl) (by kernel_rfl)
theorem ok_law09_SlotTorn : ConOK Try.prog 9 C_law09_SlotTorn := con_of k_law09_SlotTorn (byRef := br_law09_SlotTorn) fn_law09_SlotTorn rc_law09_SlotTorn args_law09_SlotTorn mem_law09_SlotTorn outs_law09_SlotTorn (fun a b K => tree_law09_SlotTorn F_slot_Frame F_ref08_Zeros F_law09_fixed F_slot_Unframe a.1.1 a.1.2.1 a.1.2.2.1 a.2.1.1 a.2.1.2.1 a.2.1.2.2.1 a.2.2.1 K) (fun a b => h_law09_SlotTorn F_slot_Frame F_ref08_Zeros F_law09_fixed F_slot_Unframe a.1.1 a.1.2.1 a.1.2.2.1 a.2.1.1 a.2.1.2.1 a.2.1.2.2.1 a.2.2.1 _) (fun a b K => n_law09_SlotTorn F_slot_Frame F_ref08_Zeros F_law09_fixed F_slot_Unframe a.1.1 a.1.2.1 a.1.2.2.1 a.2.1.1 a.2.1.2.1 a.2.1.2.2.1 a.2.2.1 K)

end Go.Proofs.Ytgfanlafbjbkaaa.S2
