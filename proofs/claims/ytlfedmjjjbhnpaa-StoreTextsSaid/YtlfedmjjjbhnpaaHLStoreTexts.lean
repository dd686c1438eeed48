/- The program's functions come to their plain forms, by program. -/
import Derived.Test.YtlfedmjjjbhnpaaGLStoreTexts
import Derived.Test.YtlfedmjjjbhnpaaHlaw22
import Derived.Test.YtlfedmjjjbhnpaaHrstore
set_option maxRecDepth 100000
set_option maxHeartbeats 0
set_option linter.unusedVariables false
set_option linter.unusedSimpArgs false
namespace Go.Proofs.Ytlfedmjjjbhnpaa.S2
open Go
def an_law22_StoreTexts : Nat → LAnn := fun n => (find n []).getD ⟨0, [], [], [], []⟩
noncomputable def fd_law22_StoreTexts : FD := fdOf Try.prog an_law22_StoreTexts Try.f7
def br_law22_StoreTexts : FuncId → CC := fun f => ⟨([] : List Nat).contains f, (find f []).getD [], (find f []).getD []⟩
def rc_law22_StoreTexts : RC := ⟨true, [], []⟩
theorem h_law22_StoreTexts (F_store_Parse : A_store_Parse → M_store_Parse → Option O_store_Parse) (F_ref22_Parse : A_ref22_Parse → M_ref22_Parse → Option O_ref22_Parse) (F_store_Text : A_store_Text → M_store_Text → Option O_store_Text) (F_ref22_Text : A_ref22_Text → M_ref22_Text → Option O_ref22_Text) (F_law22_fixed : A_law22_fixed → M_law22_fixed → Option O_law22_fixed) (x1 : Int) (x2 : Int) (x3 : Int) (x4 : Int) (x5 : Int) (x6 : ByteArray) (x7 : ByteArray) {α : Type} (K : SV → Mem → Option α) : callBody (table [(26, ⟨args_store_Parse, mem_store_Parse, outs_store_Parse, F_store_Parse⟩), (27, ⟨args_ref22_Parse, mem_ref22_Parse, outs_ref22_Parse, F_ref22_Parse⟩), (28, ⟨args_store_Text, mem_store_Text, outs_store_Text, F_store_Text⟩), (29, ⟨args_ref22_Text, mem_ref22_Text, outs_ref22_Text, F_ref22_Text⟩), (30, ⟨args_law22_fixed, mem_law22_fixed, outs_law22_fixed, F_law22_fixed⟩)] []) br_law22_StoreTexts rc_law22_StoreTexts fd_law22_StoreTexts (args_law22_StoreTexts.svs ((x1, (x2, (x3, (x4, (x5, (x6, ())))))), (x7, ()))) (mem_law22_StoreTexts.mem ()) K = tree_law22_StoreTexts F_store_Parse F_ref22_Parse F_store_Text F_ref22_Text F_law22_fixed x1 x2 x3 x4 x5 x6 x7 (fun r => outsRun outs_law22_StoreTexts r K) := by kernel_rfl
noncomputable def C_law22_StoreTexts : Con := ⟨args_law22_StoreTexts, mem_law22_StoreTexts, outs_law22_StoreTexts, F_law22_StoreTexts⟩
theorem k_law22_StoreTexts : Known Try.prog fd_law22_StoreTexts [(26, C_store_Parse), (27, C_ref22_Parse), (28, C_store_Text), (29, C_ref22_Text), (30, C_law22_fixed)] [] := known_of mixT (by kernel_rfl) ⟨ok_store_Parse, ok_ref22_Parse, ok_store_Text, ok_ref22_Text, ok_law22_fixed, trivial⟩ trivial
theorem fn_law22_StoreTexts : FnOK Try.prog an_law22_StoreTexts 7 Try.f7 fd_law22_StoreTexts := fnOK (by kernel_rfl) (by kernel_rfl) (by kernel_rfl)
theorem ok_law22_StoreTexts : ConOK Try.prog 7 C_law22_StoreTexts := con_of k_law22_StoreTexts (byRef := br_law22_StoreTexts) fn_law22_StoreTexts rc_law22_StoreTexts args_law22_StoreTexts mem_law22_StoreTexts outs_law22_StoreTexts (fun a b K => tree_law22_StoreTexts F_store_Parse F_ref22_Parse F_store_Text F_ref22_Text F_law22_fixed a.1.1 a.1.2.1 a.1.2.2.1 a.1.2.2.2.1 a.1.2.2.2.2.1 a.1.2.2.2.2.2.1 a.2.1 K) (fun a b => h_law22_StoreTexts F_store_Parse F_ref22_Parse F_store_Text F_ref22_Text F_law22_fixed a.1.1 a.1.2.1 a.1.2.2.1 a.1.2.2.2.1 a.1.2.2.2.2.1 a.1.2.2.2.2.2.1 a.2.1 _) (fun a b K => n_law22_StoreTexts F_store_Parse F_ref22_Parse F_store_Text F_ref22_Text F_law22_fixed a.1.1 a.1.2.1 a.1.2.2.1 a.1.2.2.2.1 a.1.2.2.2.2.1 a.1.2.2.2.2.2.1 a.2.1 K)

end Go.Proofs.Ytlfedmjjjbhnpaa.S2
