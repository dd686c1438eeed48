/- The program's functions come to their plain forms, by program. -/
import Derived.Test.YtgakbdikappdbaaGreatGvote
import Derived.Test.YtgakbdikappdbaaGreatHbase
set_option maxRecDepth 100000
set_option maxHeartbeats 0
set_option linter.unusedVariables false
set_option linter.unusedSimpArgs false
namespace Go.Proofs.YtgakbdikappdbaaGreat.S2
open Go
def an_vote_Seen : Nat → LAnn := fun n => (find n []).getD ⟨0, [], [], [], []⟩
noncomputable def fd_vote_Seen : FD := fdOf Tryz.prog an_vote_Seen Tryz.f40
def br_vote_Seen : FuncId → CC := fun f => ⟨([] : List Nat).contains f, (find f []).getD [], (find f []).getD []⟩
def rc_vote_Seen : RC := ⟨true, [], []⟩
theorem h_vote_Seen (x1 : Int) (x2 : Int) (x3 : Int) {α : Type} (K : SV → Mem → Option α) : callBody (table [] []) br_vote_Seen rc_vote_Seen fd_vote_Seen (args_vote_Seen.svs ((x1, (x2, ())), (x3, ()))) (mem_vote_Seen.mem ()) K = tree_vote_Seen x1 x2 x3 (fun r => outsRun outs_vote_Seen r K) := by kernel_rfl
noncomputable def C_vote_Seen : Con := ⟨args_vote_Seen, mem_vote_Seen, outs_vote_Seen, F_vote_Seen⟩
theorem k_vote_Seen : Known Tryz.prog fd_vote_Seen [] [] := known_of mixT (by kernel_rfl) trivial trivial
theorem fn_vote_Seen : FnOK Tryz.prog an_vote_Seen 40 Tryz.f40 fd_vote_Seen := fnOK (by kernel_rfl) (by kernel_rfl) (by kernel_rfl)
theorem ok_vote_Seen : ConOK Tryz.prog 40 C_vote_Seen := con_of k_vote_Seen (byRef := br_vote_Seen) fn_vote_Seen rc_vote_Seen args_vote_Seen mem_vote_Seen outs_vote_Seen (fun a b K => tree_vote_Seen a.1.1 a.1.2.1 a.2.1 K) (fun a b => h_vote_Seen a.1.1 a.1.2.1 a.2.1 _) (fun a b K => n_vote_Seen a.1.1 a.1.2.1 a.2.1 K)
def an_rlog_Last : Nat → LAnn := fun n => (find n []).getD ⟨0, [], [], [], []⟩
noncomputable def fd_rlog_Last : FD := fdOf Tryz.prog an_rlog_Last Tryz.f75
def br_rlog_Last : FuncId → CC := fun f => ⟨([] : List Nat).contains f, (find f []).getD [], (find f []).getD []⟩
def rc_rlog_Last : RC := ⟨true, [], []⟩
theorem h_rlog_Last (x1 : Int) (x2 : Int) (x3 : List (Int × Int × ByteArray)) {α : Type} (K : SV → Mem → Option α) : callBody (table [] []) br_rlog_Last rc_rlog_Last fd_rlog_Last (args_rlog_Last.svs ((x1, (x2, (x3, ()))), ())) (mem_rlog_Last.mem ()) K = tree_rlog_Last x1 x2 x3 (fun r => outsRun outs_rlog_Last r K) := by kernel_rfl
noncomputable def C_rlog_Last : Con := ⟨args_rlog_Last, mem_rlog_Last, outs_rlog_Last, F_rlog_Last⟩
theorem k_rlog_Last : Known Tryz.prog fd_rlog_Last [] [] := known_of mixT (by kernel_rfl) trivial trivial
theorem fn_rlog_Last : FnOK Tryz.prog an_rlog_Last 75 Tryz.f75 fd_rlog_Last := fnOK (by kernel_rfl) (by kernel_rfl) (by kernel_rfl)
theorem ok_rlog_Last : ConOK Tryz.prog 75 C_rlog_Last := con_of k_rlog_Last (byRef := br_rlog_Last) fn_rlog_Last rc_rlog_Last args_rlog_Last mem_rlog_Last outs_rlog_Last (fun a b K => tree_rlog_Last a.1.1 a.1.2.1 a.1.2.2.1 K) (fun a b => h_rlog_Last a.1.1 a.1.2.1 a.1.2.2.1 _) (fun a b K => n_rlog_Last a.1.1 a.1.2.1 a.1.2.2.1 K)
def an_rlog_Entry : Nat → LAnn := fun n => (find n []).getD ⟨0, [], [], [], []⟩
noncomputable def fd_rlog_Entry : FD := fdOf Tryz.prog an_rlog_Entry Tryz.f81
def br_rlog_Entry : FuncId → CC := fun f => ⟨([] : List Nat).contains f, (find f []).getD [], (find f []).getD []⟩
def rc_rlog_Entry : RC := ⟨true, [], []⟩
theorem h_rlog_Entry (x1 : Int) (x2 : Int) (x3 : List (Int × Int × ByteArray)) (x4 : Int) {α : Type} (K : SV → Mem → Option α) : callBody (table [] []) br_rlog_Entry rc_rlog_Entry fd_rlog_Entry (args_rlog_Entry.svs ((x1, (x2, (x3, ()))), (x4, ()))) (mem_rlog_Entry.mem ()) K = tree_rlog_Entry x1 x2 x3 x4 (fun r => outsRun outs_rlog_Entry r K) := by kernel_rfl
noncomputable def C_rlog_Entry : Con := ⟨args_rlog_Entry, mem_rlog_Entry, outs_rlog_Entry, F_rlog_Entry⟩
theorem k_rlog_Entry : Known Tryz.prog fd_rlog_Entry [] [] := known_of mixT (by kernel_rfl) trivial trivial
theorem fn_rlog_Entry : FnOK Tryz.prog an_rlog_Entry 81 Tryz.f81 fd_rlog_Entry := fnOK (by kernel_rfl) (by kernel_rfl) (by kernel_rfl)
theorem ok_rlog_Entry : ConOK Tryz.prog 81 C_rlog_Entry := con_of k_rlog_Entry (byRef := br_rlog_Entry) fn_rlog_Entry rc_rlog_Entry args_rlog_Entry mem_rlog_Entry outs_rlog_Entry (fun a b K => tree_rlog_Entry a.1.1 a.1.2.1 a.1.2.2.1 a.2.1 K) (fun a b => h_rlog_Entry a.1.1 a.1.2.1 a.1.2.2.1 a.2.1 _) (fun a b K => n_rlog_Entry a.1.1 a.1.2.1 a.1.2.2.1 a.2.1 K)
def an_rlog_Term : Nat → LAnn := fun n => (find n []).getD ⟨0, [], [], [], []⟩
noncomputable def fd_rlog_Term : FD := fdOf Tryz.prog an_rlog_Term Tryz.f54
def br_rlog_Term : FuncId → CC := fun f => ⟨([] : List Nat).contains f, (find f []).getD [], (find f []).getD []⟩
def rc_rlog_Term : RC := ⟨true, [], []⟩
theorem h_rlog_Term (F_rlog_Entry : A_rlog_Entry → M_rlog_Entry → Option O_rlog_Entry) (x1 : Int) (x2 : Int) (x3 : List (Int × Int × ByteArray)) (x4 : Int) {α : Type} (K : SV → Mem → Option α) : callBody (table [(81, ⟨args_rlog_Entry, mem_rlog_Entry, outs_rlog_Entry, F_rlog_Entry⟩)] []) br_rlog_Term rc_rlog_Term fd_rlog_Term (args_rlog_Term.svs ((x1, (x2, (x3, ()))), (x4, ()))) (mem_rlog_Term.mem ()) K = tree_rlog_Term F_rlog_Entry x1 x2 x3 x4 (fun r => outsRun outs_rlog_Term r K) := by kernel_rfl
noncomputable def C_rlog_Term : Con := ⟨args_rlog_Term, mem_rlog_Term, outs_rlog_Term, F_rlog_Term⟩
theorem k_rlog_Term : Known Tryz.prog fd_rlog_Term [(81, C_rlog_Entry)] [] := known_of mixT (by kernel_rfl) ⟨ok_rlog_Entry, trivial⟩ trivial
theorem fn_rlog_Term : FnOK Tryz.prog an_rlog_Term 54 Tryz.f54 fd_rlog_Term := fnOK (by kernel_rfl) (by kernel_rfl) (by kernel_rfl)
theorem ok_rlog_Term : ConOK Tryz.prog 54 C_rlog_Term := con_of k_rlog_Term (byRef := br_rlog_Term) fn_rlog_Term rc_rlog_Term args_rlog_Term mem_rlog_Term outs_rlog_Term (fun a b K => tree_rlog_Term F_rlog_Entry a.1.1 a.1.2.1 a.1.2.2.1 a.2.1 K) (fun a b => h_rlog_Term F_rlog_Entry a.1.1 a.1.2.1 a.1.2.2.1 a.2.1 _) (fun a b K => n_rlog_Term F_rlog_Entry a.1.1 a.1.2.1 a.1.2.2.1 a.2.1 K)
def an_rlog_Newer : Nat → LAnn := fun n => (find n []).getD ⟨0, [], [], [], []⟩
noncomputable def fd_rlog_Newer : FD := fdOf Tryz.prog an_rlog_Newer Tryz.f71
def br_rlog_Newer : FuncId → CC := fun f => ⟨([] : List Nat).contains f, (find f []).getD [], (find f []).getD []⟩
def rc_rlog_Newer : RC := ⟨true, [], []⟩
theorem h_rlog_Newer (F_rlog_Last : A_rlog_Last → M_rlog_Last → Option O_rlog_Last) (F_rlog_Term : A_rlog_Term → M_rlog_Term → Option O_rlog_Term) (x1 : Int) (x2 : Int) (x3 : List (Int × Int × ByteArray)) (x4 : Int) (x5 : Int) {α : Type} (K : SV → Mem → Option α) : callBody (table [(75, ⟨args_rlog_Last, mem_rlog_Last, outs_rlog_Last, F_rlog_Last⟩), (54, ⟨args_rlog_Term, mem_rlog_Term, outs_rlog_Term, F_rlog_Term⟩)] []) br_rlog_Newer rc_rlog_Newer fd_rlog_Newer (args_rlog_Newer.svs ((x1, (x2, (x3, ()))), (x4, (x5, ())))) (mem_rlog_Newer.mem ()) K = tree_rlog_Newer F_rlog_Last F_rlog_Term x1 x2 x3 x4 x5 (fun r => outsRun outs_rlog_Newer r K) := by kernel_rfl
noncomputable def C_rlog_Newer : Con := ⟨args_rlog_Newer, mem_rlog_Newer, outs_rlog_Newer, F_rlog_Newer⟩
theorem k_rlog_Newer : Known Tryz.prog fd_rlog_Newer [(75, C_rlog_Last), (54, C_rlog_Term)] [] := known_of mixT (by kernel_rfl) ⟨ok_rlog_Last, ok_rlog_Term, trivial⟩ trivial
theorem fn_rlog_Newer : FnOK Tryz.prog an_rlog_Newer 71 Tryz.f71 fd_rlog_Newer := fnOK (by kernel_rfl) (by kernel_rfl) (by kernel_rfl)
theorem ok_rlog_Newer : ConOK Tryz.prog 71 C_rlog_Newer := con_of k_rlog_Newer (byRef := br_rlog_Newer) fn_rlog_Newer rc_rlog_Newer args_rlog_Newer mem_rlog_Newer outs_rlog_Newer (fun a b K => tree_rlog_Newer F_rlog_Last F_rlog_Term a.1.1 a.1.2.1 a.1.2.2.1 a.2.1 a.2.2.1 K) (fun a b => h_rlog_Newer F_rlog_Last F_rlog_Term a.1.1 a.1.2.1 a.1.2.2.1 a.2.1 a.2.2.1 _) (fun a b K => n_rlog_Newer F_rlog_Last F_rlog_Term a.1.1 a.1.2.1 a.1.2.2.1 a.2.1 a.2.2.1 K)
def an_vote_Ask : Nat → LAnn := fun n => (find n []).getD ⟨0, [], [], [], []⟩
noncomputable def fd_vote_Ask : FD := fdOf Tryz.prog an_vote_Ask Tryz.f41
def br_vote_Ask : FuncId → CC := fun f => ⟨([] : List Nat).contains f, (find f []).getD [], (find f []).getD []⟩
def rc_vote_Ask : RC := ⟨true, [], []⟩
theorem h_vote_Ask (F_vote_Seen : A_vote_Seen → M_vote_Seen → Option O_vote_Seen) (F_rlog_Newer : A_rlog_Newer → M_rlog_Newer → Option O_rlog_Newer) (x1 : Int) (x2 : Int) (x3 : Int) (x4 : Int) (x5 : List (Int × Int × ByteArray)) (x6 : Int) (x7 : Int) (x8 : Int) (x9 : Int) {α : Type} (K : SV → Mem → Option α) : callBody (table [(40, ⟨args_vote_Seen, mem_vote_Seen, outs_vote_Seen, F_vote_Seen⟩), (71, ⟨args_rlog_Newer, mem_rlog_Newer, outs_rlog_Newer, F_rlog_Newer⟩)] []) br_vote_Ask rc_vote_Ask fd_vote_Ask (args_vote_Ask.svs ((x1, (x2, ())), ((x3, (x4, (x5, ()))), (x6, (x7, (x8, (x9, ()))))))) (mem_vote_Ask.mem ()) K = tree_vote_Ask F_vote_Seen F_rlog_Newer x1 x2 x3 x4 x5 x6 x7 x8 x9 (fun r => outsRun outs_vote_Ask r K) := by kernel_rfl
noncomputable def C_vote_Ask : Con := ⟨args_vote_Ask, mem_vote_Ask, outs_vote_Ask, F_vote_Ask⟩
theorem k_vote_Ask : Known Tryz.prog fd_vote_Ask [(40, C_vote_Seen), (71, C_rlog_Newer)] [] := known_of mixT (by kernel_rfl) ⟨ok_vote_Seen, ok_rlog_Newer, trivial⟩ trivial
theorem fn_vote_Ask : FnOK Tryz.prog an_vote_Ask 41 Tryz.f41 fd_vote_Ask := fnOK (by kernel_rfl) (by kernel_rfl) (by kernel_rfl)
theorem ok_vote_Ask : ConOK Tryz.prog 41 C_vote_Ask := con_of k_vote_Ask (byRef := br_vote_Ask) fn_vote_Ask rc_vote_Ask args_vote_Ask mem_vote_Ask outs_vote_Ask (fun a b K => tree_vote_Ask F_vote_Seen F_rlog_Newer a.1.1 a.1.2.1 a.2.1.1 a.2.1.2.1 a.2.1.2.2.1 a.2.2.1 a.2.2.2.1 a.2.2.2.2.1 a.2.2.2.2.2.1 K) (fun a b => h_vote_Ask F_vote_Seen F_rlog_Newer a.1.1 a.1.2.1 a.2.1.1 a.2.1.2.1 a.2.1.2.2.1 a.2.2.1 a.2.2.2.1 a.2.2.2.2.1 a.2.2.2.2.2.1 _) (fun a b K => n_vote_Ask F_vote_Seen F_rlog_Newer a.1.1 a.1.2.1 a.2.1.1 a.2.1.2.1 a.2.1.2.2.1 a.2.2.1 a.2.2.2.1 a.2.2.2.2.1 a.2.2.2.2.2.1 K)
end Go.Proofs.YtgakbdikappdbaaGreat.S2
