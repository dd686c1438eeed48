/- The program's functions come to their plain forms, by program. -/
import Derived.Test.YtgakbdikappdbaaGreatGouts
import Derived.Test.YtgakbdikappdbaaGreatHis
set_option maxRecDepth 100000
set_option maxHeartbeats 0
set_option linter.unusedVariables false
set_option linter.unusedSimpArgs false
namespace Go.Proofs.YtgakbdikappdbaaGreat.S2
open Go
def an_ref01_Texts : Nat → LAnn := fun n => (find n [(4, ⟨4, [0, 1, 5], [], [4, 5, 11, 12, 13, 14, 15, 16, 17, 18, 19, 20, 21, 22, 23, 24, 25], [4]⟩)]).getD ⟨0, [], [], [], []⟩
noncomputable def fd_ref01_Texts : FD := fdOf Tryz.prog an_ref01_Texts Tryz.f57
def br_ref01_Texts : FuncId → CC := fun f => ⟨([] : List Nat).contains f, (find f []).getD [], (find f []).getD []⟩
def rc_ref01_Texts : RC := ⟨true, [], []⟩
theorem hl_ref01_Texts_4 (x1 : List ByteArray) (x2 : List ByteArray) (x3 : Int) {α : Type} (kn : St → Option α) (K : Out → St → Option α) : round (table [] []) br_ref01_Texts (an_ref01_Texts 4) (fd_ref01_Texts.loop 4) kn ⟨ltmps_ref01_Texts_4.svs (x1, (x2, (x3, ()))), lmem_ref01_Texts_4.mem ()⟩ K = ltree_ref01_Texts_4 x1 x2 x3 (fun a b => kn ⟨ltmps_ref01_Texts_4.svs a, lmem_ref01_Texts_4.mem b⟩) (fun r => outLsRun louts_ref01_Texts_4 r K) := by kernel_rfl
noncomputable def D_ref01_Texts_4 : LCon := ⟨ltmps_ref01_Texts_4, lmem_ref01_Texts_4, louts_ref01_Texts_4, L_ref01_Texts_4⟩
theorem kl_ref01_Texts_4 : Known Tryz.prog fd_ref01_Texts [] [] := known_of mixT (by kernel_rfl) trivial trivial
theorem okl_ref01_Texts_4 : LConOK Tryz.prog (fd_ref01_Texts.loop 4) D_ref01_Texts_4 := lcon_of kl_ref01_Texts_4 (byRef := br_ref01_Texts) (lan := an_ref01_Texts 4) (id := 4) (by kernel_rfl) ltmps_ref01_Texts_4 lmem_ref01_Texts_4 louts_ref01_Texts_4 (fun a b kn kr => ltree_ref01_Texts_4 a.1 a.2.1 a.2.2.1 kn kr) (fun a b => hl_ref01_Texts_4 a.1 a.2.1 a.2.2.1 _ _) (fun a b kn kr => nl_ref01_Texts_4 a.1 a.2.1 a.2.2.1 kn kr)
theorem h_ref01_Texts (L_ref01_Texts_4 : LT_ref01_Texts_4 → LM_ref01_Texts_4 → Option LO_ref01_Texts_4) (x1 : List ByteArray) (x2 : List ByteArray) {α : Type} (K : SV → Mem → Option α) : callBody (table [] [(4, ⟨ltmps_ref01_Texts_4, lmem_ref01_Texts_4, louts_ref01_Texts_4, L_ref01_Texts_4⟩)]) br_ref01_Texts rc_ref01_Texts fd_ref01_Texts (args_ref01_Texts.svs (x1, (x2, ()))) (mem_ref01_Texts.mem ()) K = tree_ref01_Texts L_ref01_Texts_4 x1 x2 (fun r => outsRun outs_ref01_Texts r K) := by kernel_rfl
noncomputable def C_ref01_Texts : Con := ⟨args_ref01_Texts, mem_ref01_Texts, outs_ref01_Texts, F_ref01_Texts⟩
theorem k_ref01_Texts : Known Tryz.prog fd_ref01_Texts [] [(4, D_ref01_Texts_4)] := known_of mixT (by kernel_rfl) trivial ⟨okl_ref01_Texts_4, trivial⟩
theorem fn_ref01_Texts : FnOK Tryz.prog an_ref01_Texts 57 Tryz.f57 fd_ref01_Texts := fnOK (by kernel_rfl) (by kernel_rfl) (by kernel_rfl)
theorem ok_ref01_Texts : ConOK Tryz.prog 57 C_ref01_Texts := con_of k_ref01_Texts (byRef := br_ref01_Texts) fn_ref01_Texts rc_ref01_Texts args_ref01_Texts mem_ref01_Texts outs_ref01_Texts (fun a b K => tree_ref01_Texts L_ref01_Texts_4 a.1 a.2.1 K) (fun a b => h_ref01_Texts L_ref01_Texts_4 a.1 a.2.1 _) (fun a b K => n_ref01_Texts L_ref01_Texts_4 a.1 a.2.1 K)
def an_ref02_Is : Nat → LAnn := fun n => (find n []).getD ⟨0, [], [], [], []⟩
noncomputable def fd_ref02_Is : FD := fdOf Tryz.prog an_ref02_Is Tryz.f28
def br_ref02_Is : FuncId → CC := fun f => ⟨([] : List Nat).contains f, (find f []).getD [], (find f []).getD []⟩
def rc_ref02_Is : RC := ⟨true, [], []⟩
theorem h_ref02_Is (F_ref01_Nums : A_ref01_Nums → M_ref01_Nums → Option O_ref01_Nums) (F_ref01_Texts : A_ref01_Texts → M_ref01_Texts → Option O_ref01_Texts) (x1 : Int) (x2 : List Int) (x3 : List ByteArray) (x4 : Int) (x5 : List Int) (x6 : List ByteArray) {α : Type} (K : SV → Mem → Option α) : callBody (table [(7, ⟨args_ref01_Nums, mem_ref01_Nums, outs_ref01_Nums, F_ref01_Nums⟩), (57, ⟨args_ref01_Texts, mem_ref01_Texts, outs_ref01_Texts, F_ref01_Texts⟩)] []) br_ref02_Is rc_ref02_Is fd_ref02_Is (args_ref02_Is.svs ((x1, (x2, (x3, ()))), ((x4, (x5, (x6, ()))), ()))) (mem_ref02_Is.mem ()) K = tree_ref02_Is F_ref01_Nums F_ref01_Texts x1 x2 x3 x4 x5 x6 (fun r => outsRun outs_ref02_Is r K) := by kernel_rfl
noncomputable def C_ref02_Is : Con := ⟨args_ref02_Is, mem_ref02_Is, outs_ref02_Is, F_ref02_Is⟩
theorem k_ref02_Is : Known Tryz.prog fd_ref02_Is [(7, C_ref01_Nums), (57, C_ref01_Texts)] [] := known_of mixT (by kernel_rfl) ⟨ok_ref01_Nums, ok_ref01_Texts, trivial⟩ trivial
theorem fn_ref02_Is : FnOK Tryz.prog an_ref02_Is 28 Tryz.f28 fd_ref02_Is := fnOK (by kernel_rfl) (by kernel_rfl) (by kernel_rfl)
theorem ok_ref02_Is : ConOK Tryz.prog 28 C_ref02_Is := con_of k_ref02_Is (byRef := br_ref02_Is) fn_ref02_Is rc_ref02_Is args_ref02_Is mem_ref02_Is outs_ref02_Is (fun a b K => tree_ref02_Is F_ref01_Nums F_ref01_Texts a.1.1 a.1.2.1 a.1.2.2.1 a.2.1.1 a.2.1.2.1 a.2.1.2.2.1 K) (fun a b => h_ref02_Is F_ref01_Nums F_ref01_Texts a.1.1 a.1.2.1 a.1.2.2.1 a.2.1.1 a.2.1.2.1 a.2.1.2.2.1 _) (fun a b K => n_ref02_Is F_ref01_Nums F_ref01_Texts a.1.1 a.1.2.1 a.1.2.2.1 a.2.1.1 a.2.1.2.1 a.2.1.2.2.1 K)
def an_ref18_Outs : Nat → LAnn := fun n => (find n [(4, ⟨4, [0, 1, 5], [], [4, 5, 11, 12, 13, 14, 15, 16, 17, 18, 19, 20, 21, 22, 23, 24, 25, 26, 27, 28, 29, 30, 31, 32, 33, 34, 35, 36, 37, 38, 39, 40, 41], [4]⟩)]).getD ⟨0, [], [], [], []⟩
noncomputable def fd_ref18_Outs : FD := fdOf Tryz.prog an_ref18_Outs Tryz.f11
def br_ref18_Outs : FuncId → CC := fun f => ⟨([] : List Nat).contains f, (find f []).getD [], (find f []).getD []⟩
def rc_ref18_Outs : RC := ⟨true, [], []⟩
theorem hl_ref18_Outs_4 (F_ref02_Is : A_ref02_Is → M_ref02_Is → Option O_ref02_Is) (x1 : List (Int × Int × List Int × List ByteArray)) (x2 : List (Int × Int × List Int × List ByteArray)) (x3 : Int) {α : Type} (kn : St → Option α) (K : Out → St → Option α) : round (table [(28, ⟨args_ref02_Is, mem_ref02_Is, outs_ref02_Is, F_ref02_Is⟩)] []) br_ref18_Outs (an_ref18_Outs 4) (fd_ref18_Outs.loop 4) kn ⟨ltmps_ref18_Outs_4.svs (x1, (x2, (x3, ()))), lmem_ref18_Outs_4.mem ()⟩ K = ltree_ref18_Outs_4 F_ref02_Is x1 x2 x3 (fun a b => kn ⟨ltmps_ref18_Outs_4.svs a, lmem_ref18_Outs_4.mem b⟩) (fun r => outLsRun louts_ref18_Outs_4 r K) := by kernel_rfl
noncomputable def D_ref18_Outs_4 : LCon := ⟨ltmps_ref18_Outs_4, lmem_ref18_Outs_4, louts_ref18_Outs_4, L_ref18_Outs_4⟩
theorem kl_ref18_Outs_4 : Known Tryz.prog fd_ref18_Outs [(28, C_ref02_Is)] [] := known_of mixT (by kernel_rfl) ⟨ok_ref02_Is, trivial⟩ trivial
theorem okl_ref18_Outs_4 : LConOK Tryz.prog (fd_ref18_Outs.loop 4) D_ref18_Outs_4 := lcon_of kl_ref18_Outs_4 (byRef := br_ref18_Outs) (lan := an_ref18_Outs 4) (id := 4) (by kernel_rfl) ltmps_ref18_Outs_4 lmem_ref18_Outs_4 louts_ref18_Outs_4 (fun a b kn kr => ltree_ref18_Outs_4 F_ref02_Is a.1 a.2.1 a.2.2.1 kn kr) (fun a b => hl_ref18_Outs_4 F_ref02_Is a.1 a.2.1 a.2.2.1 _ _) (fun a b kn kr => nl_ref18_Outs_4 F_ref02_Is a.1 a.2.1 a.2.2.1 kn kr)
theorem h_ref18_Outs (F_ref02_Is : A_ref02_Is → M_ref02_Is → Option O_ref02_Is) (L_ref18_Outs_4 : LT_ref18_Outs_4 → LM_ref18_Outs_4 → Option LO_ref18_Outs_4) (x1 : List (Int × Int × List Int × List ByteArray)) (x2 : List (Int × Int × List Int × List ByteArray)) {α : Type} (K : SV → Mem → Option α) : callBody (table [(28, ⟨args_ref02_Is, mem_ref02_Is, outs_ref02_Is, F_ref02_Is⟩)] [(4, ⟨ltmps_ref18_Outs_4, lmem_ref18_Outs_4, louts_ref18_Outs_4, L_ref18_Outs_4⟩)]) br_ref18_Outs rc_ref18_Outs fd_ref18_Outs (args_ref18_Outs.svs (x1, (x2, ()))) (mem_ref18_Outs.mem ()) K = tree_ref18_Outs L_ref18_Outs_4 x1 x2 (fun r => outsRun outs_ref18_Outs r K) := by kernel_rfl
noncomputable def C_ref18_Outs : Con := ⟨args_ref18_Outs, mem_ref18_Outs, outs_ref18_Outs, F_ref18_Outs⟩
theorem k_ref18_Outs : Known Tryz.prog fd_ref18_Outs [(28, C_ref02_Is)] [(4, D_ref18_Outs_4)] := known_of mixT (by kernel_rfl) ⟨ok_ref02_Is, trivial⟩ ⟨okl_ref18_Outs_4, trivial⟩
theorem fn_ref18_Outs : FnOK Tryz.prog an_ref18_Outs 11 Tryz.f11 fd_ref18_Outs := fnOK (by kernel_rfl) (by kernel_rfl) (by kernel_rfl)
theorem ok_ref18_Outs : ConOK Tryz.prog 11 C_ref18_Outs := con_of k_ref18_Outs (byRef := br_ref18_Outs) fn_ref18_Outs rc_ref18_Outs args_ref18_Outs mem_ref18_Outs outs_ref18_Outs (fun a b K => tree_ref18_Outs L_ref18_Outs_4 a.1 a.2.1 K) (fun a b => h_ref18_Outs F_ref02_Is L_ref18_Outs_4 a.1 a.2.1 _) (fun a b K => n_ref18_Outs L_ref18_Outs_4 a.1 a.2.1 K)
end Go.Proofs.YtgakbdikappdbaaGreat.S2
