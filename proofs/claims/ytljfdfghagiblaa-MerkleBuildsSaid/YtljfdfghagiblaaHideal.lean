/- The program's functions come to their plain forms, by program. -/
import Derived.Test.YtljfdfghagiblaaGideal
import Derived.Test.YtljfdfghagiblaaHbase
set_option maxRecDepth 100000
set_option maxHeartbeats 0
set_option linter.unusedVariables false
set_option linter.unusedSimpArgs false
namespace Go.Proofs.Ytljfdfghagiblaa.S2
open Go
def an_s_Clone_u : Nat → LAnn := fun n => (find n []).getD ⟨0, [], [], [], []⟩
noncomputable def fd_s_Clone_u : FD := fdOf Try.prog an_s_Clone_u Try.f48
def br_s_Clone_u : FuncId → CC := fun f => ⟨([] : List Nat).contains f, (find f []).getD [], (find f []).getD []⟩
def rc_s_Clone_u : RC := ⟨true, [], []⟩
theorem h_s_Clone_u (x1 : List Int) {α : Type} (K : SV → Mem → Option α) : callBody (table [] []) br_s_Clone_u rc_s_Clone_u fd_s_Clone_u (args_s_Clone_u.svs (x1, ())) (mem_s_Clone_u.mem ()) K = tree_s_Clone_u x1 (fun r => outsRun outs_s_Clone_u r K) := by kernel_rfl
noncomputable def C_s_Clone_u : Con := ⟨args_s_Clone_u, mem_s_Clone_u, outs_s_Clone_u, F_s_Clone_u⟩
theorem k_s_Clone_u : Known Try.prog fd_s_Clone_u [] [] := known_of mixT (by kernel_rfl) trivial trivial
theorem fn_s_Clone_u : FnOK Try.prog an_s_Clone_u 48 Try.f48 fd_s_Clone_u := fnOK (by kernel_rfl) (by kernel_rfl) (by kernel_rfl)
theorem h0_s_Clone_u : callBody (table [] []) br_s_Clone_u ⟨true, [], []⟩ fd_s_Clone_u [.nils] [] (fun v m => some (v, m)) = some (.ps 41 (.cons (.int .u64) .nil) [], []) := by kernel_rfl
theorem h1_s_Clone_u : callBody (table [] []) br_s_Clone_u ⟨true, [], []⟩ fd_s_Clone_u [.pe] [] (fun v m => some (v, m)) = some (.ps 41 (.cons (.int .u64) .nil) [], []) := by kernel_rfl
theorem ok_s_Clone_u : ConOK Try.prog 48 C_s_Clone_u := by
  have h0 : F_s_Clone_u ([], ()) () = some ([], ()) := by simp [F_s_Clone_u]
  refine con_slc (e := 41) (r := (.cons (.int .u64) .nil)) (outs := outs_s_Clone_u) (F := F_s_Clone_u) ?_ ?_ ?_
  · intro o ho
    cases Option.some.inj (h0.symm.trans ho)
    exact call_of k_s_Clone_u fn_s_Clone_u ⟨true, [], []⟩ h0_s_Clone_u
  · intro o ho
    cases Option.some.inj (h0.symm.trans ho)
    exact call_of k_s_Clone_u fn_s_Clone_u ⟨true, [], []⟩ h1_s_Clone_u
  · intro x xs o ho
    have h2 := h_s_Clone_u (x :: xs) (fun v m => some (v, m))
    have ho : cond (decide ((x :: xs).length * 8 ≤ 140737488355328)) (some (x :: xs, ())) none = some o := ho
    cases hb : decide ((x :: xs).length * 8 ≤ 140737488355328) with
    | false => rw [hb] at ho; cases ho
    | true =>
    rw [hb] at ho
    cases ho
    refine call_of k_s_Clone_u fn_s_Clone_u ⟨true, [], []⟩ (h2.trans ?_)
    have hb2 : decide ((0 + (xs.length + 1)) * 8 ≤ 140737488355328) = true := by rw [Nat.zero_add]; exact hb
    show (cond (decide (0 < xs.length + 1)) (cond (decide ((0 + (xs.length + 1)) * 8 ≤ 140737488355328)) (some _) none) none : Option (SV × Mem)) = _
    rw [hb2, decide_eq_true (Nat.succ_pos _)]
    rfl

def an_ideal_New : Nat → LAnn := fun n => (find n []).getD ⟨0, [], [], [], []⟩
noncomputable def fd_ideal_New : FD := fdOf Try.prog an_ideal_New Try.f13
def br_ideal_New : FuncId → CC := fun f => ⟨([] : List Nat).contains f, (find f []).getD [], (find f []).getD []⟩
def rc_ideal_New : RC := ⟨false, [(0, 9, 9, (.cons .str .nil))], []⟩
theorem h_ideal_New (F_s_Clone_u : A_s_Clone_u → M_s_Clone_u → Option O_s_Clone_u) (x1 : List Int) {α : Type} (K : SV → Mem → Option α) : callBody (table [(48, ⟨args_s_Clone_u, mem_s_Clone_u, outs_s_Clone_u, F_s_Clone_u⟩)] []) br_ideal_New rc_ideal_New fd_ideal_New (args_ideal_New.svs (x1, ())) (mem_ideal_New.mem ()) K = tree_ideal_New F_s_Clone_u x1 (fun r => outsRun outs_ideal_New r K) := by kernel_rfl
noncomputable def C_ideal_New : Con := ⟨args_ideal_New, mem_ideal_New, outs_ideal_New, F_ideal_New⟩
theorem k_ideal_New : Known Try.prog fd_ideal_New [(48, C_s_Clone_u)] [] := known_of mixT (by kernel_rfl) ⟨ok_s_Clone_u, trivial⟩ trivial
theorem fn_ideal_New : FnOK Try.prog an_ideal_New 13 Try.f13 fd_ideal_New := fnOK (by kernel_rfl) (by kernel_rfl) (by kernel_rfl)
theorem ok_ideal_New : ConOK Try.prog 13 C_ideal_New := con_of k_ideal_New (byRef := br_ideal_New) fn_ideal_New rc_ideal_New args_ideal_New mem_ideal_New outs_ideal_New (fun a b K => tree_ideal_New F_s_Clone_u a.1 K) (fun a b => h_ideal_New F_s_Clone_u a.1 _) (fun a b K => n_ideal_New F_s_Clone_u a.1 K)

def an_ideal_Oracle_Drawn : Nat → LAnn := fun n => (find n []).getD ⟨0, [], [], [], []⟩
noncomputable def fd_ideal_Oracle_Drawn : FD := fdOf Try.prog an_ideal_Oracle_Drawn Try.f19
def br_ideal_Oracle_Drawn : FuncId → CC := fun f => ⟨([] : List Nat).contains f, (find f []).getD [], (find f []).getD []⟩
def rc_ideal_Oracle_Drawn : RC := ⟨true, [(1, 9, 9, (.cons .str .nil))], []⟩
theorem h_ideal_Oracle_Drawn (x1 : List Int) (x2 : Int) (x3 : Bool) (x4 : List (Int × Int)) (x5 : List (Int × Int)) (x6 : List (ByteArray × Int)) (x7 : List ((Int × ByteArray) × Int)) (x8 : List ((Int × Int × ByteArray × ByteArray) × Int)) (x9 : List ((Int × Int × Int × ByteArray) × Int)) (x10 : List ByteArray) {α : Type} (K : SV → Mem → Option α) : callBody (table [] []) br_ideal_Oracle_Drawn rc_ideal_Oracle_Drawn fd_ideal_Oracle_Drawn (args_ideal_Oracle_Drawn.svs ()) (mem_ideal_Oracle_Drawn.mem ((x1, (x2, (x3, ()))), (x4, (x5, (x6, (x7, (x8, (x9, (x10, ()))))))))) K = tree_ideal_Oracle_Drawn x1 x2 x3 x4 x5 x6 x7 x8 x9 x10 (fun r => outsRun routs_ideal_Oracle_Drawn r K) := by kernel_rfl
noncomputable def C_ideal_Oracle_Drawn : Con := ⟨args_ideal_Oracle_Drawn, mem_ideal_Oracle_Drawn, outs_ideal_Oracle_Drawn, F_ideal_Oracle_Drawn⟩
theorem k_ideal_Oracle_Drawn : Known Try.prog fd_ideal_Oracle_Drawn [] [] := known_of mixT (by kernel_rfl) trivial trivial
theorem fn_ideal_Oracle_Drawn : FnOK Try.prog an_ideal_Oracle_Drawn 19 Try.f19 fd_ideal_Oracle_Drawn := fnOK (by kernel_rfl) (by kernel_rfl) (by kernel_rfl)
noncomputable def CR_ideal_Oracle_Drawn : Con := ⟨args_ideal_Oracle_Drawn, mem_ideal_Oracle_Drawn, routs_ideal_Oracle_Drawn, R_ideal_Oracle_Drawn⟩
theorem okr_ideal_Oracle_Drawn : ConOK Try.prog 19 CR_ideal_Oracle_Drawn := con_of k_ideal_Oracle_Drawn (byRef := br_ideal_Oracle_Drawn) fn_ideal_Oracle_Drawn rc_ideal_Oracle_Drawn args_ideal_Oracle_Drawn mem_ideal_Oracle_Drawn routs_ideal_Oracle_Drawn (fun a b K => tree_ideal_Oracle_Drawn b.1.1 b.1.2.1 b.1.2.2.1 b.2.1 b.2.2.1 b.2.2.2.1 b.2.2.2.2.1 b.2.2.2.2.2.1 b.2.2.2.2.2.2.1 b.2.2.2.2.2.2.2.1 K) (fun a b => h_ideal_Oracle_Drawn b.1.1 b.1.2.1 b.1.2.2.1 b.2.1 b.2.2.1 b.2.2.2.1 b.2.2.2.2.1 b.2.2.2.2.2.1 b.2.2.2.2.2.2.1 b.2.2.2.2.2.2.2.1 _) (fun a b K => n_ideal_Oracle_Drawn b.1.1 b.1.2.1 b.1.2.2.1 b.2.1 b.2.2.1 b.2.2.2.1 b.2.2.2.2.1 b.2.2.2.2.2.1 b.2.2.2.2.2.2.1 b.2.2.2.2.2.2.2.1 K)
theorem ok_ideal_Oracle_Drawn : ConOK Try.prog 19 C_ideal_Oracle_Drawn := con_reads okr_ideal_Oracle_Drawn (by rfl) reads_ideal_Oracle_Drawn

def an_ideal_Oracle_Bad : Nat → LAnn := fun n => (find n []).getD ⟨0, [], [], [], []⟩
noncomputable def fd_ideal_Oracle_Bad : FD := fdOf Try.prog an_ideal_Oracle_Bad Try.f21
def br_ideal_Oracle_Bad : FuncId → CC := fun f => ⟨([] : List Nat).contains f, (find f []).getD [], (find f []).getD []⟩
def rc_ideal_Oracle_Bad : RC := ⟨true, [(1, 9, 9, (.cons .str .nil))], []⟩
theorem h_ideal_Oracle_Bad (x1 : List Int) (x2 : Int) (x3 : Bool) (x4 : List (Int × Int)) (x5 : List (Int × Int)) (x6 : List (ByteArray × Int)) (x7 : List ((Int × ByteArray) × Int)) (x8 : List ((Int × Int × ByteArray × ByteArray) × Int)) (x9 : List ((Int × Int × Int × ByteArray) × Int)) (x10 : List ByteArray) {α : Type} (K : SV → Mem → Option α) : callBody (table [] []) br_ideal_Oracle_Bad rc_ideal_Oracle_Bad fd_ideal_Oracle_Bad (args_ideal_Oracle_Bad.svs ()) (mem_ideal_Oracle_Bad.mem ((x1, (x2, (x3, ()))), (x4, (x5, (x6, (x7, (x8, (x9, (x10, ()))))))))) K = tree_ideal_Oracle_Bad x1 x2 x3 x4 x5 x6 x7 x8 x9 x10 (fun r => outsRun routs_ideal_Oracle_Bad r K) := by kernel_rfl
noncomputable def C_ideal_Oracle_Bad : Con := ⟨args_ideal_Oracle_Bad, mem_ideal_Oracle_Bad, outs_ideal_Oracle_Bad, F_ideal_Oracle_Bad⟩
theorem k_ideal_Oracle_Bad : Known Try.prog fd_ideal_Oracle_Bad [] [] := known_of mixT (by kernel_rfl) trivial trivial
theorem fn_ideal_Oracle_Bad : FnOK Try.prog an_ideal_Oracle_Bad 21 Try.f21 fd_ideal_Oracle_Bad := fnOK (by kernel_rfl) (by kernel_rfl) (by kernel_rfl)
noncomputable def CR_ideal_Oracle_Bad : Con := ⟨args_ideal_Oracle_Bad, mem_ideal_Oracle_Bad, routs_ideal_Oracle_Bad, R_ideal_Oracle_Bad⟩
theorem okr_ideal_Oracle_Bad : ConOK Try.prog 21 CR_ideal_Oracle_Bad := con_of k_ideal_Oracle_Bad (byRef := br_ideal_Oracle_Bad) fn_ideal_Oracle_Bad rc_ideal_Oracle_Bad args_ideal_Oracle_Bad mem_ideal_Oracle_Bad routs_ideal_Oracle_Bad (fun a b K => tree_ideal_Oracle_Bad b.1.1 b.1.2.1 b.1.2.2.1 b.2.1 b.2.2.1 b.2.2.2.1 b.2.2.2.2.1 b.2.2.2.2.2.1 b.2.2.2.2.2.2.1 b.2.2.2.2.2.2.2.1 K) (fun a b => h_ideal_Oracle_Bad b.1.1 b.1.2.1 b.1.2.2.1 b.2.1 b.2.2.1 b.2.2.2.1 b.2.2.2.2.1 b.2.2.2.2.2.1 b.2.2.2.2.2.2.1 b.2.2.2.2.2.2.2.1 _) (fun a b K => n_ideal_Oracle_Bad b.1.1 b.1.2.1 b.1.2.2.1 b.2.1 b.2.2.1 b.2.2.2.1 b.2.2.2.2.1 b.2.2.2.2.2.1 b.2.2.2.2.2.2.1 b.2.2.2.2.2.2.2.1 K)
theorem ok_ideal_Oracle_Bad : ConOK Try.prog 21 C_ideal_Oracle_Bad := con_reads okr_ideal_Oracle_Bad (by rfl) reads_ideal_Oracle_Bad

def an_ideal_Oracle_Fresh : Nat → LAnn := fun n => (find n []).getD ⟨0, [], [], [], []⟩
noncomputable def fd_ideal_Oracle_Fresh : FD := fdOf Try.prog an_ideal_Oracle_Fresh Try.f79
def br_ideal_Oracle_Fresh : FuncId → CC := fun f => ⟨([] : List Nat).contains f, (find f []).getD [], (find f []).getD []⟩
def rc_ideal_Oracle_Fresh : RC := ⟨false, [(1, 9, 9, (.cons .str .nil))], []⟩
theorem h_ideal_Oracle_Fresh (x1 : List Int) (x2 : Int) (x3 : Bool) (x4 : List (Int × Int)) (x5 : List (Int × Int)) (x6 : List (ByteArray × Int)) (x7 : List ((Int × ByteArray) × Int)) (x8 : List ((Int × Int × ByteArray × ByteArray) × Int)) (x9 : List ((Int × Int × Int × ByteArray) × Int)) (x10 : List ByteArray) {α : Type} (K : SV → Mem → Option α) : callBody (table [] []) br_ideal_Oracle_Fresh rc_ideal_Oracle_Fresh fd_ideal_Oracle_Fresh (args_ideal_Oracle_Fresh.svs ()) (mem_ideal_Oracle_Fresh.mem ((x1, (x2, (x3, ()))), (x4, (x5, (x6, (x7, (x8, (x9, (x10, ()))))))))) K = tree_ideal_Oracle_Fresh x1 x2 x3 x4 x5 x6 x7 x8 x9 x10 (fun r => outsRun outs_ideal_Oracle_Fresh r K) := by kernel_rfl
noncomputable def C_ideal_Oracle_Fresh : Con := ⟨args_ideal_Oracle_Fresh, mem_ideal_Oracle_Fresh, outs_ideal_Oracle_Fresh, F_ideal_Oracle_Fresh⟩
theorem k_ideal_Oracle_Fresh : Known Try.prog fd_ideal_Oracle_Fresh [] [] := known_of mixT (by kernel_rfl) trivial trivial
theorem fn_ideal_Oracle_Fresh : FnOK Try.prog an_ideal_Oracle_Fresh 79 Try.f79 fd_ideal_Oracle_Fresh := fnOK (by kernel_rfl) (by kernel_rfl) (by kernel_rfl)
theorem ok_ideal_Oracle_Fresh : ConOK Try.prog 79 C_ideal_Oracle_Fresh := con_of k_ideal_Oracle_Fresh (byRef := br_ideal_Oracle_Fresh) fn_ideal_Oracle_Fresh rc_ideal_Oracle_Fresh args_ideal_Oracle_Fresh mem_ideal_Oracle_Fresh outs_ideal_Oracle_Fresh (fun a b K => tree_ideal_Oracle_Fresh b.1.1 b.1.2.1 b.1.2.2.1 b.2.1 b.2.2.1 b.2.2.2.1 b.2.2.2.2.1 b.2.2.2.2.2.1 b.2.2.2.2.2.2.1 b.2.2.2.2.2.2.2.1 K) (fun a b => h_ideal_Oracle_Fresh b.1.1 b.1.2.1 b.1.2.2.1 b.2.1 b.2.2.1 b.2.2.2.1 b.2.2.2.2.1 b.2.2.2.2.2.1 b.2.2.2.2.2.2.1 b.2.2.2.2.2.2.2.1 _) (fun a b K => n_ideal_Oracle_Fresh b.1.1 b.1.2.1 b.1.2.2.1 b.2.1 b.2.2.1 b.2.2.2.1 b.2.2.2.2.1 b.2.2.2.2.2.1 b.2.2.2.2.2.2.1 b.2.2.2.2.2.2.2.1 K)

def an_ideal_Oracle_Hash : Nat → LAnn := fun n => (find n []).getD ⟨0, [], [], [], []⟩
noncomputable def fd_ideal_Oracle_Hash : FD := fdOf Try.prog an_ideal_Oracle_Hash Try.f54
def br_ideal_Oracle_Hash : FuncId → CC := fun f => ⟨([79] : List Nat).contains f, (find f [(79, [0, 1, 2, 3, 4, 5, 6, 7, 8, 9, 10, 11])]).getD [], (find f [(79, [(0, 9, 9, (.cons .str .nil))])]).getD []⟩
def rc_ideal_Oracle_Hash : RC := ⟨false, [(1, 9, 9, (.cons .str .nil))], []⟩
theorem h_ideal_Oracle_Hash (F_ideal_Oracle_Fresh : A_ideal_Oracle_Fresh → M_ideal_Oracle_Fresh → Option O_ideal_Oracle_Fresh) (x1 : ByteArray) (x2 : List Int) (x3 : Int) (x4 : Bool) (x5 : List (Int × Int)) (x6 : List (Int × Int)) (x7 : List (ByteArray × Int)) (x8 : List ((Int × ByteArray) × Int)) (x9 : List ((Int × Int × ByteArray × ByteArray) × Int)) (x10 : List ((Int × Int × Int × ByteArray) × Int)) (x11 : List ByteArray) {α : Type} (K : SV → Mem → Option α) : callBody (table [(79, ⟨args_ideal_Oracle_Fresh, mem_ideal_Oracle_Fresh, outs_ideal_Oracle_Fresh, F_ideal_Oracle_Fresh⟩)] []) br_ideal_Oracle_Hash rc_ideal_Oracle_Hash fd_ideal_Oracle_Hash (args_ideal_Oracle_Hash.svs (x1, ())) (mem_ideal_Oracle_Hash.mem ((x2, (x3, (x4, ()))), (x5, (x6, (x7, (x8, (x9, (x10, (x11, ()))))))))) K = tree_ideal_Oracle_Hash F_ideal_Oracle_Fresh x1 x2 x3 x4 x5 x6 x7 x8 x9 x10 x11 (fun r => outsRun outs_ideal_Oracle_Hash r K) := by kernel_rfl
noncomputable def C_ideal_Oracle_Hash : Con := ⟨args_ideal_Oracle_Hash, mem_ideal_Oracle_Hash, outs_ideal_Oracle_Hash, F_ideal_Oracle_Hash⟩
theorem k_ideal_Oracle_Hash : Known Try.prog fd_ideal_Oracle_Hash [(79, C_ideal_Oracle_Fresh)] [] := known_of mixT (by kernel_rfl) ⟨ok_ideal_Oracle_Fresh, trivial⟩ trivial
theorem fn_ideal_Oracle_Hash : FnOK Try.prog an_ideal_Oracle_Hash 54 Try.f54 fd_ideal_Oracle_Hash := fnOK (by kernel_rfl) (by kernel_rfl) (by kernel_rfl)
theorem ok_ideal_Oracle_Hash : ConOK Try.prog 54 C_ideal_Oracle_Hash := con_of k_ideal_Oracle_Hash (byRef := br_ideal_Oracle_Hash) fn_ideal_Oracle_Hash rc_ideal_Oracle_Hash args_ideal_Oracle_Hash mem_ideal_Oracle_Hash outs_ideal_Oracle_Hash (fun a b K => tree_ideal_Oracle_Hash F_ideal_Oracle_Fresh a.1 b.1.1 b.1.2.1 b.1.2.2.1 b.2.1 b.2.2.1 b.2.2.2.1 b.2.2.2.2.1 b.2.2.2.2.2.1 b.2.2.2.2.2.2.1 b.2.2.2.2.2.2.2.1 K) (fun a b => h_ideal_Oracle_Hash F_ideal_Oracle_Fresh a.1 b.1.1 b.1.2.1 b.1.2.2.1 b.2.1 b.2.2.1 b.2.2.2.1 b.2.2.2.2.1 b.2.2.2.2.2.1 b.2.2.2.2.2.2.1 b.2.2.2.2.2.2.2.1 _) (fun a b K => n_ideal_Oracle_Hash F_ideal_Oracle_Fresh a.1 b.1.1 b.1.2.1 b.1.2.2.1 b.2.1 b.2.2.1 b.2.2.2.1 b.2.2.2.2.1 b.2.2.2.2.2.1 b.2.2.2.2.2.2.1 b.2.2.2.2.2.2.2.1 K)

def an_ideal_Oracle_Meet : Nat → LAnn := fun n => (find n []).getD ⟨0, [], [], [], []⟩
noncomputable def fd_ideal_Oracle_Meet : FD := fdOf Try.prog an_ideal_Oracle_Meet Try.f26
def br_ideal_Oracle_Meet : FuncId → CC := fun f => ⟨([] : List Nat).contains f, (find f []).getD [], (find f []).getD []⟩
def rc_ideal_Oracle_Meet : RC := ⟨false, [(0, 9, 9, (.cons .str .nil))], []⟩
theorem h_ideal_Oracle_Meet (x1 : Int) (x2 : List Int) (x3 : Int) (x4 : Bool) (x5 : List (Int × Int)) (x6 : List (Int × Int)) (x7 : List (ByteArray × Int)) (x8 : List ((Int × ByteArray) × Int)) (x9 : List ((Int × Int × ByteArray × ByteArray) × Int)) (x10 : List ((Int × Int × Int × ByteArray) × Int)) (x11 : List ByteArray) {α : Type} (K : SV → Mem → Option α) : callBody (table [] []) br_ideal_Oracle_Meet rc_ideal_Oracle_Meet fd_ideal_Oracle_Meet (args_ideal_Oracle_Meet.svs (x1, ())) (mem_ideal_Oracle_Meet.mem ((x2, (x3, (x4, ()))), (x5, (x6, (x7, (x8, (x9, (x10, (x11, ()))))))))) K = tree_ideal_Oracle_Meet x1 x2 x3 x4 x5 x6 x7 x8 x9 x10 x11 (fun r => outsRun outs_ideal_Oracle_Meet r K) := by kernel_rfl
noncomputable def C_ideal_Oracle_Meet : Con := ⟨args_ideal_Oracle_Meet, mem_ideal_Oracle_Meet, outs_ideal_Oracle_Meet, F_ideal_Oracle_Meet⟩
theorem k_ideal_Oracle_Meet : Known Try.prog fd_ideal_Oracle_Meet [] [] := known_of mixT (by kernel_rfl) trivial trivial
theorem fn_ideal_Oracle_Meet : FnOK Try.prog an_ideal_Oracle_Meet 26 Try.f26 fd_ideal_Oracle_Meet := fnOK (by kernel_rfl) (by kernel_rfl) (by kernel_rfl)
theorem ok_ideal_Oracle_Meet : ConOK Try.prog 26 C_ideal_Oracle_Meet := con_of k_ideal_Oracle_Meet (byRef := br_ideal_Oracle_Meet) fn_ideal_Oracle_Meet rc_ideal_Oracle_Meet args_ideal_Oracle_Meet mem_ideal_Oracle_Meet outs_ideal_Oracle_Meet (fun a b K => tree_ideal_Oracle_Meet a.1 b.1.1 b.1.2.1 b.1.2.2.1 b.2.1 b.2.2.1 b.2.2.2.1 b.2.2.2.2.1 b.2.2.2.2.2.1 b.2.2.2.2.2.2.1 b.2.2.2.2.2.2.2.1 K) (fun a b => h_ideal_Oracle_Meet a.1 b.1.1 b.1.2.1 b.1.2.2.1 b.2.1 b.2.2.1 b.2.2.2.1 b.2.2.2.2.1 b.2.2.2.2.2.1 b.2.2.2.2.2.2.1 b.2.2.2.2.2.2.2.1 _) (fun a b K => n_ideal_Oracle_Meet a.1 b.1.1 b.1.2.1 b.1.2.2.1 b.2.1 b.2.2.1 b.2.2.2.1 b.2.2.2.2.1 b.2.2.2.2.2.1 b.2.2.2.2.2.2.1 b.2.2.2.2.2.2.2.1 K)

end Go.Proofs.Ytljfdfghagiblaa.S2
