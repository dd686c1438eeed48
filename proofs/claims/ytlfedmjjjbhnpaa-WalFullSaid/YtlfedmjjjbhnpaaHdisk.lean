/- The program's functions come to their plain forms, by program. -/
import Derived.Test.YtlfedmjjjbhnpaaGdisk
import Derived.Test.YtlfedmjjjbhnpaaHbase
set_option maxRecDepth 100000
set_option maxHeartbeats 0
set_option linter.unusedVariables false
set_option linter.unusedSimpArgs false
namespace Go.Proofs.Ytlfedmjjjbhnpaa.S2
open Go
def an_ref08_Zeros : Nat → LAnn := fun n => (find n []).getD ⟨0, [], [], [], []⟩
noncomputable def fd_ref08_Zeros : FD := fdOf Try.prog an_ref08_Zeros Try.f75
def br_ref08_Zeros : FuncId → CC := fun f => ⟨([] : List Nat).contains f, (find f []).getD [], (find f []).getD []⟩
def rc_ref08_Zeros : RC := ⟨true, [], []⟩
theorem h_ref08_Zeros (x1 : Int) {α : Type} (K : SV → Mem → Option α) : callBody (table [] []) br_ref08_Zeros rc_ref08_Zeros fd_ref08_Zeros (args_ref08_Zeros.svs (x1, ())) (mem_ref08_Zeros.mem ()) K = tree_ref08_Zeros x1 (fun r => outsRun outs_ref08_Zeros r K) := by kernel_rfl
noncomputable def C_ref08_Zeros : Con := ⟨args_ref08_Zeros, mem_ref08_Zeros, outs_ref08_Zeros, F_ref08_Zeros⟩
theorem k_ref08_Zeros : Known Try.prog fd_ref08_Zeros [] [] := known_of mixT (by kernel_rfl) trivial trivial
theorem fn_ref08_Zeros : FnOK Try.prog an_ref08_Zeros 75 Try.f75 fd_ref08_Zeros := fnOK (by kernel_rfl) (by kernel_rfl) (by kernel_rfl)
theorem ok_ref08_Zeros : ConOK Try.prog 75 C_ref08_Zeros := con_of k_ref08_Zeros (byRef := br_ref08_Zeros) fn_ref08_Zeros rc_ref08_Zeros args_ref08_Zeros mem_ref08_Zeros outs_ref08_Zeros (fun a b K => tree_ref08_Zeros a.1 K) (fun a b => h_ref08_Zeros a.1 _) (fun a b K => n_ref08_Zeros a.1 K)

noncomputable def C_strings_Repeat : Con := ⟨args_strings_Repeat, mem_strings_Repeat, outs_strings_Repeat, F_strings_Repeat⟩
theorem ok_strings_Repeat : ConOK Try.prog 80 C_strings_Repeat := by
  rintro ⟨(s : ByteArray), (n : Int), ⟨⟩⟩ ⟨⟩ r hr
  have hr : cond (decide (0 ≤ n ∧ n ≤ 9223372036854775807 ∧ s.size * n.toNat ≤ 140737488355328)) (some (⟨(Go.Lib.repeatL s.data.toList n.toNat).toArray⟩, ())) none = some r := hr
  by_cases hc : 0 ≤ n ∧ n ≤ 9223372036854775807 ∧ s.size * n.toNat ≤ 140737488355328
  · rw [decide_eq_true hc] at hr
    cases hr
    refine callOK_of_below Try.func80 (by kernel_rfl) (by kernel_rfl) fun w A β vs hx => ?_
    obtain ⟨v1, vs1, rfl, hv1, v2, vs2, rfl, hv2, hv3⟩ := hx
    have hv1 : v1 = .string s := hv1
    have hv2 : v2 = .int .i64 n := hv2
    have hv3 : vs2 = [] := hv3
    subst hv1 hv2 hv3
    have hn : n = (n.toNat : Int) := by omega
    have hcall := strings_Repeat s n.toNat w (by omega) hc.2.2
    rw [← hn] at hcall
    exact hcall.mono fun e w' ⟨he, hw⟩ => ⟨_, he, hw, fun A' β' => rfl⟩
  · rw [decide_eq_false hc] at hr
    cases hr

def an_disk_Disk_Sectors : Nat → LAnn := fun n => (find n []).getD ⟨0, [], [], [], []⟩
noncomputable def fd_disk_Disk_Sectors : FD := fdOf Try.prog an_disk_Disk_Sectors Try.f58
def br_disk_Disk_Sectors : FuncId → CC := fun f => ⟨([] : List Nat).contains f, (find f []).getD [], (find f []).getD []⟩
def rc_disk_Disk_Sectors : RC := ⟨true, [(1, 2, 127, (.cons (.int .i64) (.cons .str .nil)))], []⟩
theorem h_disk_Disk_Sectors (x1 : Int) (x2 : List ByteArray) (x3 : List (Int × ByteArray)) {α : Type} (K : SV → Mem → Option α) : callBody (table [] []) br_disk_Disk_Sectors rc_disk_Disk_Sectors fd_disk_Disk_Sectors (args_disk_Disk_Sectors.svs ()) (mem_disk_Disk_Sectors.mem ((x1, ()), (x2, (x3, ())))) K = tree_disk_Disk_Sectors x1 x2 x3 (fun r => outsRun routs_disk_Disk_Sectors r K) := by kernel_rfl
noncomputable def C_disk_Disk_Sectors : Con := ⟨args_disk_Disk_Sectors, mem_disk_Disk_Sectors, outs_disk_Disk_Sectors, F_disk_Disk_Sectors⟩
theorem k_disk_Disk_Sectors : Known Try.prog fd_disk_Disk_Sectors [] [] := known_of mixT (by kernel_rfl) trivial trivial
theorem fn_disk_Disk_Sectors : FnOK Try.prog an_disk_Disk_Sectors 58 Try.f58 fd_disk_Disk_Sectors := fnOK (by kernel_rfl) (by kernel_rfl) (by kernel_rfl)
noncomputable def CR_disk_Disk_Sectors : Con := ⟨args_disk_Disk_Sectors, mem_disk_Disk_Sectors, routs_disk_Disk_Sectors, R_disk_Disk_Sectors⟩
theorem okr_disk_Disk_Sectors : ConOK Try.prog 58 CR_disk_Disk_Sectors := con_of k_disk_Disk_Sectors (byRef := br_disk_Disk_Sectors) fn_disk_Disk_Sectors rc_disk_Disk_Sectors args_disk_Disk_Sectors mem_disk_Disk_Sectors routs_disk_Disk_Sectors (fun a b K => tree_disk_Disk_Sectors b.1.1 b.2.1 b.2.2.1 K) (fun a b => h_disk_Disk_Sectors b.1.1 b.2.1 b.2.2.1 _) (fun a b K => n_disk_Disk_Sectors b.1.1 b.2.1 b.2.2.1 K)
theorem ok_disk_Disk_Sectors : ConOK Try.prog 58 C_disk_Disk_Sectors := con_reads okr_disk_Disk_Sectors (by rfl) reads_disk_Disk_Sectors

def an_disk_Disk_Size : Nat → LAnn := fun n => (find n []).getD ⟨0, [], [], [], []⟩
noncomputable def fd_disk_Disk_Size : FD := fdOf Try.prog an_disk_Disk_Size Try.f54
def br_disk_Disk_Size : FuncId → CC := fun f => ⟨([] : List Nat).contains f, (find f []).getD [], (find f []).getD []⟩
def rc_disk_Disk_Size : RC := ⟨true, [(1, 2, 127, (.cons (.int .i64) (.cons .str .nil)))], []⟩
theorem h_disk_Disk_Size (x1 : Int) (x2 : List ByteArray) (x3 : List (Int × ByteArray)) {α : Type} (K : SV → Mem → Option α) : callBody (table [] []) br_disk_Disk_Size rc_disk_Disk_Size fd_disk_Disk_Size (args_disk_Disk_Size.svs ()) (mem_disk_Disk_Size.mem ((x1, ()), (x2, (x3, ())))) K = tree_disk_Disk_Size x1 x2 x3 (fun r => outsRun routs_disk_Disk_Size r K) := by kernel_rfl
noncomputable def C_disk_Disk_Size : Con := ⟨args_disk_Disk_Size, mem_disk_Disk_Size, outs_disk_Disk_Size, F_disk_Disk_Size⟩
theorem k_disk_Disk_Size : Known Try.prog fd_disk_Disk_Size [] [] := known_of mixT (by kernel_rfl) trivial trivial
theorem fn_disk_Disk_Size : FnOK Try.prog an_disk_Disk_Size 54 Try.f54 fd_disk_Disk_Size := fnOK (by kernel_rfl) (by kernel_rfl) (by kernel_rfl)
noncomputable def CR_disk_Disk_Size : Con := ⟨args_disk_Disk_Size, mem_disk_Disk_Size, routs_disk_Disk_Size, R_disk_Disk_Size⟩
theorem okr_disk_Disk_Size : ConOK Try.prog 54 CR_disk_Disk_Size := con_of k_disk_Disk_Size (byRef := br_disk_Disk_Size) fn_disk_Disk_Size rc_disk_Disk_Size args_disk_Disk_Size mem_disk_Disk_Size routs_disk_Disk_Size (fun a b K => tree_disk_Disk_Size b.1.1 b.2.1 b.2.2.1 K) (fun a b => h_disk_Disk_Size b.1.1 b.2.1 b.2.2.1 _) (fun a b K => n_disk_Disk_Size b.1.1 b.2.1 b.2.2.1 K)
theorem ok_disk_Disk_Size : ConOK Try.prog 54 C_disk_Disk_Size := con_reads okr_disk_Disk_Size (by rfl) reads_disk_Disk_Size

def an_disk_Disk_Pending : Nat → LAnn := fun n => (find n []).getD ⟨0, [], [], [], []⟩
noncomputable def fd_disk_Disk_Pending : FD := fdOf Try.prog an_disk_Disk_Pending Try.f47
def br_disk_Disk_Pending : FuncId → CC := fun f => ⟨([] : List Nat).contains f, (find f []).getD [], (find f []).getD []⟩
def rc_disk_Disk_Pending : RC := ⟨true, [(1, 2, 127, (.cons (.int .i64) (.cons .str .nil)))], []⟩
theorem h_disk_Disk_Pending (x1 : Int) (x2 : List ByteArray) (x3 : List (Int × ByteArray)) {α : Type} (K : SV → Mem → Option α) : callBody (table [] []) br_disk_Disk_Pending rc_disk_Disk_Pending fd_disk_Disk_Pending (args_disk_Disk_Pending.svs ()) (mem_disk_Disk_Pending.mem ((x1, ()), (x2, (x3, ())))) K = tree_disk_Disk_Pending x1 x2 x3 (fun r => outsRun routs_disk_Disk_Pending r K) := by kernel_rfl
noncomputable def C_disk_Disk_Pending : Con := ⟨args_disk_Disk_Pending, mem_disk_Disk_Pending, outs_disk_Disk_Pending, F_disk_Disk_Pending⟩
theorem k_disk_Disk_Pending : Known Try.prog fd_disk_Disk_Pending [] [] := known_of mixT (by kernel_rfl) trivial trivial
theorem fn_disk_Disk_Pending : FnOK Try.prog an_disk_Disk_Pending 47 Try.f47 fd_disk_Disk_Pending := fnOK (by kernel_rfl) (by kernel_rfl) (by kernel_rfl)
noncomputable def CR_disk_Disk_Pending : Con := ⟨args_disk_Disk_Pending, mem_disk_Disk_Pending, routs_disk_Disk_Pending, R_disk_Disk_Pending⟩
theorem okr_disk_Disk_Pending : ConOK Try.prog 47 CR_disk_Disk_Pending := con_of k_disk_Disk_Pending (byRef := br_disk_Disk_Pending) fn_disk_Disk_Pending rc_disk_Disk_Pending args_disk_Disk_Pending mem_disk_Disk_Pending routs_disk_Disk_Pending (fun a b K => tree_disk_Disk_Pending b.1.1 b.2.1 b.2.2.1 K) (fun a b => h_disk_Disk_Pending b.1.1 b.2.1 b.2.2.1 _) (fun a b K => n_disk_Disk_Pending b.1.1 b.2.1 b.2.2.1 K)
theorem ok_disk_Disk_Pending : ConOK Try.prog 47 C_disk_Disk_Pending := con_reads okr_disk_Disk_Pending (by rfl) reads_disk_Disk_Pending

def an_disk_Disk_has : Nat → LAnn := fun n => (find n []).getD ⟨0, [], [], [], []⟩
noncomputable def fd_disk_Disk_has : FD := fdOf Try.prog an_disk_Disk_has Try.f84
def br_disk_Disk_has : FuncId → CC := fun f => ⟨([] : List Nat).contains f, (find f []).getD [], (find f []).getD []⟩
def rc_disk_Disk_has : RC := ⟨true, [(1, 2, 127, (.cons (.int .i64) (.cons .str .nil)))], []⟩
theorem h_disk_Disk_has (x1 : Int) (x2 : Int) (x3 : List ByteArray) (x4 : List (Int × ByteArray)) {α : Type} (K : SV → Mem → Option α) : callBody (table [] []) br_disk_Disk_has rc_disk_Disk_has fd_disk_Disk_has (args_disk_Disk_has.svs (x1, ())) (mem_disk_Disk_has.mem ((x2, ()), (x3, (x4, ())))) K = tree_disk_Disk_has x1 x2 x3 x4 (fun r => outsRun routs_disk_Disk_has r K) := by kernel_rfl
noncomputable def C_disk_Disk_has : Con := ⟨args_disk_Disk_has, mem_disk_Disk_has, outs_disk_Disk_has, F_disk_Disk_has⟩
theorem k_disk_Disk_has : Known Try.prog fd_disk_Disk_has [] [] := known_of mixT (by kernel_rfl) trivial trivial
theorem fn_disk_Disk_has : FnOK Try.prog an_disk_Disk_has 84 Try.f84 fd_disk_Disk_has := fnOK (by kernel_rfl) (by kernel_rfl) (by kernel_rfl)
noncomputable def CR_disk_Disk_has : Con := ⟨args_disk_Disk_has, mem_disk_Disk_has, routs_disk_Disk_has, R_disk_Disk_has⟩
theorem okr_disk_Disk_has : ConOK Try.prog 84 CR_disk_Disk_has := con_of k_disk_Disk_has (byRef := br_disk_Disk_has) fn_disk_Disk_has rc_disk_Disk_has args_disk_Disk_has mem_disk_Disk_has routs_disk_Disk_has (fun a b K => tree_disk_Disk_has a.1 b.1.1 b.2.1 b.2.2.1 K) (fun a b => h_disk_Disk_has a.1 b.1.1 b.2.1 b.2.2.1 _) (fun a b K => n_disk_Disk_has a.1 b.1.1 b.2.1 b.2.2.1 K)
theorem ok_disk_Disk_has : ConOK Try.prog 84 C_disk_Disk_has := con_reads okr_disk_Disk_has (by rfl) reads_disk_Disk_has

def an_disk_Disk_Safe : Nat → LAnn := fun n => (find n []).getD ⟨0, [], [], [], []⟩
noncomputable def fd_disk_Disk_Safe : FD := fdOf Try.prog an_disk_Disk_Safe Try.f86
def br_disk_Disk_Safe : FuncId → CC := fun f => ⟨([84] : List Nat).contains f, (find f [(84, [0, 1, 2, 3, 4, 5, 6, 7, 8, 9, 10, 11])]).getD [], (find f [(84, [(0, 2, 127, (.cons (.int .i64) (.cons .str .nil)))])]).getD []⟩
def rc_disk_Disk_Safe : RC := ⟨true, [(2, 2, 127, (.cons (.int .i64) (.cons .str .nil)))], []⟩
theorem h_disk_Disk_Safe (F_disk_Disk_has : A_disk_Disk_has → M_disk_Disk_has → Option O_disk_Disk_has) (x1 : Int) (x2 : Int) (x3 : List ByteArray) (x4 : List (Int × ByteArray)) {α : Type} (K : SV → Mem → Option α) : callBody (table [(84, ⟨args_disk_Disk_has, mem_disk_Disk_has, outs_disk_Disk_has, F_disk_Disk_has⟩)] []) br_disk_Disk_Safe rc_disk_Disk_Safe fd_disk_Disk_Safe (args_disk_Disk_Safe.svs (x1, ())) (mem_disk_Disk_Safe.mem ((x2, ()), (x3, (x4, ())))) K = tree_disk_Disk_Safe F_disk_Disk_has x1 x2 x3 x4 (fun r => outsRun routs_disk_Disk_Safe r K) := by kernel_rfl
noncomputable def C_disk_Disk_Safe : Con := ⟨args_disk_Disk_Safe, mem_disk_Disk_Safe, outs_disk_Disk_Safe, F_disk_Disk_Safe⟩
theorem k_disk_Disk_Safe : Known Try.prog fd_disk_Disk_Safe [(84, C_disk_Disk_has)] [] := known_of mixT (by kernel_rfl) ⟨ok_disk_Disk_has, trivial⟩ trivial
theorem fn_disk_Disk_Safe : FnOK Try.prog an_disk_Disk_Safe 86 Try.f86 fd_disk_Disk_Safe := fnOK (by kernel_rfl) (by kernel_rfl) (by kernel_rfl)
noncomputable def CR_disk_Disk_Safe : Con := ⟨args_disk_Disk_Safe, mem_disk_Disk_Safe, routs_disk_Disk_Safe, R_disk_Disk_Safe⟩
theorem okr_disk_Disk_Safe : ConOK Try.prog 86 CR_disk_Disk_Safe := con_of k_disk_Disk_Safe (byRef := br_disk_Disk_Safe) fn_disk_Disk_Safe rc_disk_Disk_Safe args_disk_Disk_Safe mem_disk_Disk_Safe routs_disk_Disk_Safe (fun a b K => tree_disk_Disk_Safe F_disk_Disk_has a.1 b.1.1 b.2.1 b.2.2.1 K) (fun a b => h_disk_Disk_Safe F_disk_Disk_has a.1 b.1.1 b.2.1 b.2.2.1 _) (fun a b K => n_disk_Disk_Safe F_disk_Disk_has a.1 b.1.1 b.2.1 b.2.2.1 K)
theorem ok_disk_Disk_Safe : ConOK Try.prog 86 C_disk_Disk_Safe := con_reads okr_disk_Disk_Safe (by rfl) reads_disk_Disk_Safe

def an_disk_Disk_Read : Nat → LAnn := fun n => (find n [(2, ⟨2, [0, 1, 6], [], [4, 5, 6, 13, 14, 15, 16, 17, 18, 19, 20, 21, 22, 23, 24, 25, 26, 27, 28, 29, 30, 31, 32, 33, 34], [0, 1, 4, 5]⟩)]).getD ⟨0, [], [], [], []⟩
noncomputable def fd_disk_Disk_Read : FD := fdOf Try.prog an_disk_Disk_Read Try.f59
def br_disk_Disk_Read : FuncId → CC := fun f => ⟨([86] : List Nat).contains f, (find f [(86, [0, 1, 2, 3, 4, 5, 6, 7, 8, 9, 10, 11])]).getD [], (find f [(86, [(0, 2, 127, (.cons (.int .i64) (.cons .str .nil)))])]).getD []⟩
def rc_disk_Disk_Read : RC := ⟨true, [(2, 2, 127, (.cons (.int .i64) (.cons .str .nil)))], []⟩
theorem hl_disk_Disk_Read_2 (F_disk_Disk_Safe : A_disk_Disk_Safe → M_disk_Disk_Safe → Option O_disk_Disk_Safe) (x1 : Int) (x2 : Int) (x3 : Int) (x4 : List ByteArray) (x5 : List (Int × ByteArray)) {α : Type} (kn : St → Option α) (K : Out → St → Option α) : round (table [(86, ⟨args_disk_Disk_Safe, mem_disk_Disk_Safe, outs_disk_Disk_Safe, F_disk_Disk_Safe⟩)] []) br_disk_Disk_Read (an_disk_Disk_Read 2) (fd_disk_Disk_Read.loop 2) kn ⟨ltmps_disk_Disk_Read_2.svs (x1, (x2, ())), lmem_disk_Disk_Read_2.mem ((x3, ()), (x4, (x5, ())))⟩ K = ltree_disk_Disk_Read_2 x1 x2 x3 x4 x5 (fun a b => kn ⟨ltmps_disk_Disk_Read_2.svs a, lmem_disk_Disk_Read_2.mem b⟩) (fun r => outLsRun louts_disk_Disk_Read_2 r K) := by kernel_rfl
noncomputable def D_disk_Disk_Read_2 : LCon := ⟨ltmps_disk_Disk_Read_2, lmem_disk_Disk_Read_2, louts_disk_Disk_Read_2, L_disk_Disk_Read_2⟩
theorem kl_disk_Disk_Read_2 : Known Try.prog fd_disk_Disk_Read [(86, C_disk_Disk_Safe)] [] := known_of mixT (by kernel_rfl) ⟨ok_disk_Disk_Safe, trivial⟩ trivial
theorem okl_disk_Disk_Read_2 : LConOK Try.prog (fd_disk_Disk_Read.loop 2) D_disk_Disk_Read_2 := lcon_of kl_disk_Disk_Read_2 (byRef := br_disk_Disk_Read) (lan := an_disk_Disk_Read 2) (id := 2) (by kernel_rfl) ltmps_disk_Disk_Read_2 lmem_disk_Disk_Read_2 louts_disk_Disk_Read_2 (fun a b kn kr => ltree_disk_Disk_Read_2 a.1 a.2.1 b.1.1 b.2.1 b.2.2.1 kn kr) (fun a b => hl_disk_Disk_Read_2 F_disk_Disk_Safe a.1 a.2.1 b.1.1 b.2.1 b.2.2.1 _ _) (fun a b kn kr => nl_disk_Disk_Read_2 a.1 a.2.1 b.1.1 b.2.1 b.2.2.1 kn kr)
theorem h_disk_Disk_Read (F_disk_Disk_Safe : A_disk_Disk_Safe → M_disk_Disk_Safe → Option O_disk_Disk_Safe) (L_disk_Disk_Read_2 : LT_disk_Disk_Read_2 → LM_disk_Disk_Read_2 → Option LO_disk_Disk_Read_2) (x1 : Int) (x2 : Int) (x3 : List ByteArray) (x4 : List (Int × ByteArray)) {α : Type} (K : SV → Mem → Option α) : callBody (table [(86, ⟨args_disk_Disk_Safe, mem_disk_Disk_Safe, outs_disk_Disk_Safe, F_disk_Disk_Safe⟩)] [(2, ⟨ltmps_disk_Disk_Read_2, lmem_disk_Disk_Read_2, louts_disk_Disk_Read_2, L_disk_Disk_Read_2⟩)]) br_disk_Disk_Read rc_disk_Disk_Read fd_disk_Disk_Read (args_disk_Disk_Read.svs (x1, ())) (mem_disk_Disk_Read.mem ((x2, ()), (x3, (x4, ())))) K = tree_disk_Disk_Read F_disk_Disk_Safe L_disk_Disk_Read_2 x1 x2 x3 x4 (fun r => outsRun routs_disk_Disk_Read r K) := by kernel_rfl
noncomputable def C_disk_Disk_Read : Con := ⟨args_disk_Disk_Read, mem_disk_Disk_Read, outs_disk_Disk_Read, F_disk_Disk_Read⟩
theorem k_disk_Disk_Read : Known Try.prog fd_disk_Disk_Read [(86, C_disk_Disk_Safe)] [(2, D_disk_Disk_Read_2)] := known_of mixT (by kernel_rfl) ⟨ok_disk_Disk_Safe, trivial⟩ ⟨okl_disk_Disk_Read_2, trivial⟩
theorem fn_disk_Disk_Read : FnOK Try.prog an_disk_Disk_Read 59 Try.f59 fd_disk_Disk_Read := fnOK (by kernel_rfl) (by kernel_rfl) (by kernel_rfl)
noncomputable def CR_disk_Disk_Read : Con := ⟨args_disk_Disk_Read, mem_disk_Disk_Read, routs_disk_Disk_Read, R_disk_Disk_Read⟩
theorem okr_disk_Disk_Read : ConOK Try.prog 59 CR_disk_Disk_Read := con_of k_disk_Disk_Read (byRef := br_disk_Disk_Read) fn_disk_Disk_Read rc_disk_Disk_Read args_disk_Disk_Read mem_disk_Disk_Read routs_disk_Disk_Read (fun a b K => tree_disk_Disk_Read F_disk_Disk_Safe L_disk_Disk_Read_2 a.1 b.1.1 b.2.1 b.2.2.1 K) (fun a b => h_disk_Disk_Read F_disk_Disk_Safe L_disk_Disk_Read_2 a.1 b.1.1 b.2.1 b.2.2.1 _) (fun a b K => n_disk_Disk_Read F_disk_Disk_Safe L_disk_Disk_Read_2 a.1 b.1.1 b.2.1 b.2.2.1 K)
theorem ok_disk_Disk_Read : ConOK Try.prog 59 C_disk_Disk_Read := con_reads okr_disk_Disk_Read (by rfl) reads_disk_Disk_Read

def an_disk_Disk_Flush_1 : Nat → LAnn := fun n => (find n []).getD ⟨0, [], [], [], []⟩
noncomputable def fd_disk_Disk_Flush_1 : FD := fdOf Try.prog an_disk_Disk_Flush_1 Try.f85
def br_disk_Disk_Flush_1 : FuncId → CC := fun f => ⟨([] : List Nat).contains f, (find f []).getD [], (find f []).getD []⟩
def rc_disk_Disk_Flush_1 : RC := ⟨true, [], []⟩
theorem h_disk_Disk_Flush_1 (x1 : Int) (x2 : Int) (x3 : List ByteArray) (x4 : List (Int × ByteArray)) {α : Type} (K : SV → Mem → Option α) : callBody (table [] []) br_disk_Disk_Flush_1 rc_disk_Disk_Flush_1 fd_disk_Disk_Flush_1 (args_disk_Disk_Flush_1.svs (x1, ())) (mem_disk_Disk_Flush_1.mem ((), ((x2, ()), (x3, (x4, ()))))) K = tree_disk_Disk_Flush_1 x1 x2 x3 x4 (fun r => outsRun routs_disk_Disk_Flush_1 r K) := by kernel_rfl
noncomputable def C_disk_Disk_Flush_1 : Con := ⟨args_disk_Disk_Flush_1, mem_disk_Disk_Flush_1, outs_disk_Disk_Flush_1, F_disk_Disk_Flush_1⟩
theorem k_disk_Disk_Flush_1 : Known Try.prog fd_disk_Disk_Flush_1 [] [] := known_of mixT (by kernel_rfl) trivial trivial
theorem fn_disk_Disk_Flush_1 : FnOK Try.prog an_disk_Disk_Flush_1 85 Try.f85 fd_disk_Disk_Flush_1 := fnOK (by kernel_rfl) (by kernel_rfl) (by kernel_rfl)
noncomputable def CR_disk_Disk_Flush_1 : Con := ⟨args_disk_Disk_Flush_1, mem_disk_Disk_Flush_1, routs_disk_Disk_Flush_1, R_disk_Disk_Flush_1⟩
theorem okr_disk_Disk_Flush_1 : ConOK Try.prog 85 CR_disk_Disk_Flush_1 := con_of k_disk_Disk_Flush_1 (byRef := br_disk_Disk_Flush_1) fn_disk_Disk_Flush_1 rc_disk_Disk_Flush_1 args_disk_Disk_Flush_1 mem_disk_Disk_Flush_1 routs_disk_Disk_Flush_1 (fun a b K => tree_disk_Disk_Flush_1 a.1 b.2.1.1 b.2.2.1 b.2.2.2.1 K) (fun a b => h_disk_Disk_Flush_1 a.1 b.2.1.1 b.2.2.1 b.2.2.2.1 _) (fun a b K => n_disk_Disk_Flush_1 a.1 b.2.1.1 b.2.2.1 b.2.2.2.1 K)
theorem ok_disk_Disk_Flush_1 : ConOK Try.prog 85 C_disk_Disk_Flush_1 := con_reads okr_disk_Disk_Flush_1 (by rfl) reads_disk_Disk_Flush_1

def an_disk_Disk_Crash_1 : Nat → LAnn := fun n => (find n []).getD ⟨0, [], [], [], []⟩
noncomputable def fd_disk_Disk_Crash_1 : FD := fdOf Try.prog an_disk_Disk_Crash_1 Try.f63
def br_disk_Disk_Crash_1 : FuncId → CC := fun f => ⟨([] : List Nat).contains f, (find f []).getD [], (find f []).getD []⟩
def rc_disk_Disk_Crash_1 : RC := ⟨true, [], []⟩
theorem h_disk_Disk_Crash_1 (x1 : Int) (x2 : List Int) {α : Type} (K : SV → Mem → Option α) : callBody (table [] []) br_disk_Disk_Crash_1 rc_disk_Disk_Crash_1 fd_disk_Disk_Crash_1 (args_disk_Disk_Crash_1.svs (x1, ())) (mem_disk_Disk_Crash_1.mem ((x2, ()), ())) K = tree_disk_Disk_Crash_1 x1 x2 (fun r => outsRun routs_disk_Disk_Crash_1 r K) := by kernel_rfl
noncomputable def C_disk_Disk_Crash_1 : Con := ⟨args_disk_Disk_Crash_1, mem_disk_Disk_Crash_1, outs_disk_Disk_Crash_1, F_disk_Disk_Crash_1⟩
theorem k_disk_Disk_Crash_1 : Known Try.prog fd_disk_Disk_Crash_1 [] [] := known_of mixT (by kernel_rfl) trivial trivial
theorem fn_disk_Disk_Crash_1 : FnOK Try.prog an_disk_Disk_Crash_1 63 Try.f63 fd_disk_Disk_Crash_1 := fnOK (by kernel_rfl) (by kernel_rfl) (by kernel_rfl)
noncomputable def CR_disk_Disk_Crash_1 : Con := ⟨args_disk_Disk_Crash_1, mem_disk_Disk_Crash_1, routs_disk_Disk_Crash_1, R_disk_Disk_Crash_1⟩
theorem okr_disk_Disk_Crash_1 : ConOK Try.prog 63 CR_disk_Disk_Crash_1 := con_of k_disk_Disk_Crash_1 (byRef := br_disk_Disk_Crash_1) fn_disk_Disk_Crash_1 rc_disk_Disk_Crash_1 args_disk_Disk_Crash_1 mem_disk_Disk_Crash_1 routs_disk_Disk_Crash_1 (fun a b K => tree_disk_Disk_Crash_1 a.1 b.1.1 K) (fun a b => h_disk_Disk_Crash_1 a.1 b.1.1 _) (fun a b K => n_disk_Disk_Crash_1 a.1 b.1.1 K)
theorem ok_disk_Disk_Crash_1 : ConOK Try.prog 63 C_disk_Disk_Crash_1 := con_reads okr_disk_Disk_Crash_1 (by rfl) reads_disk_Disk_Crash_1

def an_disk_Disk_keep_v1 : Nat → LAnn := fun n => (find n [(1, ⟨1, [0, 1, 10, 11, 12], [], [4, 5, 6, 12, 13, 14, 15, 16, 17, 18, 19, 20, 21, 22, 23, 24, 25, 26, 27, 28, 29, 30, 31, 32, 33, 34, 35, 36, 37, 38, 39, 40, 41, 42, 43, 44, 45, 46, 47, 48], [0]⟩)]).getD ⟨0, [], [], [], []⟩
noncomputable def fd_disk_Disk_keep_v1 : FD := fdOf Try.prog an_disk_Disk_keep_v1 Try.f62
def br_disk_Disk_keep_v1 : FuncId → CC := fun f => ⟨([85] : List Nat).contains f, (find f [(85, [0, 1, 2, 3, 4, 5, 6, 7, 8, 9, 10, 11])]).getD [], (find f []).getD []⟩
def rc_disk_Disk_keep_v1 : RC := ⟨false, [(0, 2, 127, (.cons (.int .i64) (.cons .str .nil)))], [(0, 2, 3)]⟩
theorem hl_disk_Disk_keep_v1_1 (F_disk_Disk_Flush_1 : A_disk_Disk_Flush_1 → M_disk_Disk_Flush_1 → Option O_disk_Disk_Flush_1) (x1 : Int) (x2 : Int) (x3 : Int) (x4 : List ByteArray) (x5 : List (Int × ByteArray)) {α : Type} (kn : St → Option α) (K : Out → St → Option α) : round (table [(85, ⟨args_disk_Disk_Flush_1, mem_disk_Disk_Flush_1, outs_disk_Disk_Flush_1, F_disk_Disk_Flush_1⟩)] []) br_disk_Disk_keep_v1 (an_disk_Disk_keep_v1 1) (fd_disk_Disk_keep_v1.loop 1) kn ⟨ltmps_disk_Disk_keep_v1_1.svs ((), (x1, (x2, ()))), lmem_disk_Disk_keep_v1_1.mem ((x3, ()), ((), (x4, (x5, ()))))⟩ K = ltree_disk_Disk_keep_v1_1 F_disk_Disk_Flush_1 x1 x2 x3 x4 x5 (fun a b => kn ⟨ltmps_disk_Disk_keep_v1_1.svs a, lmem_disk_Disk_keep_v1_1.mem b⟩) (fun r => outLsRun louts_disk_Disk_keep_v1_1 r K) := by kernel_rfl
noncomputable def D_disk_Disk_keep_v1_1 : LCon := ⟨ltmps_disk_Disk_keep_v1_1, lmem_disk_Disk_keep_v1_1, louts_disk_Disk_keep_v1_1, L_disk_Disk_keep_v1_1⟩
theorem kl_disk_Disk_keep_v1_1 : Known Try.prog fd_disk_Disk_keep_v1 [(85, C_disk_Disk_Flush_1)] [] := known_of mixT (by kernel_rfl) ⟨ok_disk_Disk_Flush_1, trivial⟩ trivial
theorem okl_disk_Disk_keep_v1_1 : LConOK Try.prog (fd_disk_Disk_keep_v1.loop 1) D_disk_Disk_keep_v1_1 := lcon_of kl_disk_Disk_keep_v1_1 (byRef := br_disk_Disk_keep_v1) (lan := an_disk_Disk_keep_v1 1) (id := 1) (by kernel_rfl) ltmps_disk_Disk_keep_v1_1 lmem_disk_Disk_keep_v1_1 louts_disk_Disk_keep_v1_1 (fun a b kn kr => ltree_disk_Disk_keep_v1_1 F_disk_Disk_Flush_1 a.2.1 a.2.2.1 b.1.1 b.2.2.1 b.2.2.2.1 kn kr) (fun a b => hl_disk_Disk_keep_v1_1 F_disk_Disk_Flush_1 a.2.1 a.2.2.1 b.1.1 b.2.2.1 b.2.2.2.1 _ _) (fun a b kn kr => nl_disk_Disk_keep_v1_1 F_disk_Disk_Flush_1 a.2.1 a.2.2.1 b.1.1 b.2.2.1 b.2.2.2.1 kn kr)
theorem h_disk_Disk_keep_v1 (F_disk_Disk_Flush_1 : A_disk_Disk_Flush_1 → M_disk_Disk_Flush_1 → Option O_disk_Disk_Flush_1) (L_disk_Disk_keep_v1_1 : LT_disk_Disk_keep_v1_1 → LM_disk_Disk_keep_v1_1 → Option LO_disk_Disk_keep_v1_1) (x1 : Int) (x2 : List ByteArray) (x3 : List (Int × ByteArray)) {α : Type} (K : SV → Mem → Option α) : callBody (table [(85, ⟨args_disk_Disk_Flush_1, mem_disk_Disk_Flush_1, outs_disk_Disk_Flush_1, F_disk_Disk_Flush_1⟩)] [(1, ⟨ltmps_disk_Disk_keep_v1_1, lmem_disk_Disk_keep_v1_1, louts_disk_Disk_keep_v1_1, L_disk_Disk_keep_v1_1⟩)]) br_disk_Disk_keep_v1 rc_disk_Disk_keep_v1 fd_disk_Disk_keep_v1 (args_disk_Disk_keep_v1.svs ((), ())) (mem_disk_Disk_keep_v1.mem ((x1, ()), ((), (x2, (x3, ()))))) K = tree_disk_Disk_keep_v1 L_disk_Disk_keep_v1_1 x1 x2 x3 (fun r => outsRun outs_disk_Disk_keep_v1 r K) := by kernel_rfl
noncomputable def C_disk_Disk_keep_v1 : Con := ⟨args_disk_Disk_keep_v1, mem_disk_Disk_keep_v1, outs_disk_Disk_keep_v1, F_disk_Disk_keep_v1⟩
theorem k_disk_Disk_keep_v1 : Known Try.prog fd_disk_Disk_keep_v1 [(85, C_disk_Disk_Flush_1)] [(1, D_disk_Disk_keep_v1_1)] := known_of mixT (by kernel_rfl) ⟨ok_disk_Disk_Flush_1, trivial⟩ ⟨okl_disk_Disk_keep_v1_1, trivial⟩
theorem fn_disk_Disk_keep_v1 : FnOK Try.prog an_disk_Disk_keep_v1 62 Try.f62 fd_disk_Disk_keep_v1 := fnOK (by kernel_rfl) (by kernel_rfl) (by kernel_rfl)
theorem ok_disk_Disk_keep_v1 : ConOK Try.prog 62 C_disk_Disk_keep_v1 := con_of k_disk_Disk_keep_v1 (byRef := br_disk_Disk_keep_v1) fn_disk_Disk_keep_v1 rc_disk_Disk_keep_v1 args_disk_Disk_keep_v1 mem_disk_Disk_keep_v1 outs_disk_Disk_keep_v1 (fun a b K => tree_disk_Disk_keep_v1 L_disk_Disk_keep_v1_1 b.1.1 b.2.2.1 b.2.2.2.1 K) (fun a b => h_disk_Disk_keep_v1 F_disk_Disk_Flush_1 L_disk_Disk_keep_v1_1 b.1.1 b.2.2.1 b.2.2.2.1 _) (fun a b K => n_disk_Disk_keep_v1 L_disk_Disk_keep_v1_1 b.1.1 b.2.2.1 b.2.2.2.1 K)

def an_disk_Disk_keep_v2 : Nat → LAnn := fun n => (find n [(1, ⟨1, [0, 1, 10, 11, 12], [], [4, 5, 6, 12, 13, 14, 15, 16, 17, 18, 19, 20, 21, 22, 23, 24, 25, 26, 27, 28, 29, 30, 31, 32, 33, 34, 35, 36, 37, 38, 39, 40, 41, 42, 43, 44, 45, 46, 47, 48], [0]⟩)]).getD ⟨0, [], [], [], []⟩
noncomputable def fd_disk_Disk_keep_v2 : FD := fdOf Try.prog an_disk_Disk_keep_v2 Try.f62
def br_disk_Disk_keep_v2 : FuncId → CC := fun f => ⟨([63] : List Nat).contains f, (find f [(63, [0, 1, 2, 3, 4, 5, 6, 7, 8, 9, 10, 11])]).getD [], (find f []).getD []⟩
def rc_disk_Disk_keep_v2 : RC := ⟨false, [(0, 2, 127, (.cons (.int .i64) (.cons .str .nil)))], [(0, 2, 3)]⟩
theorem hl_disk_Disk_keep_v2_1 (F_disk_Disk_Crash_1 : A_disk_Disk_Crash_1 → M_disk_Disk_Crash_1 → Option O_disk_Disk_Crash_1) (x1 : Int) (x2 : Int) (x3 : Int) (x4 : List Int) (x5 : List ByteArray) (x6 : List (Int × ByteArray)) {α : Type} (kn : St → Option α) (K : Out → St → Option α) : round (table [(63, ⟨args_disk_Disk_Crash_1, mem_disk_Disk_Crash_1, outs_disk_Disk_Crash_1, F_disk_Disk_Crash_1⟩)] []) br_disk_Disk_keep_v2 (an_disk_Disk_keep_v2 1) (fd_disk_Disk_keep_v2.loop 1) kn ⟨ltmps_disk_Disk_keep_v2_1.svs ((), (x1, (x2, ()))), lmem_disk_Disk_keep_v2_1.mem ((x3, ()), ((x4, ()), (x5, (x6, ()))))⟩ K = ltree_disk_Disk_keep_v2_1 F_disk_Disk_Crash_1 x1 x2 x3 x4 x5 x6 (fun a b => kn ⟨ltmps_disk_Disk_keep_v2_1.svs a, lmem_disk_Disk_keep_v2_1.mem b⟩) (fun r => outLsRun louts_disk_Disk_keep_v2_1 r K) := by kernel_rfl
noncomputable def D_disk_Disk_keep_v2_1 : LCon := ⟨ltmps_disk_Disk_keep_v2_1, lmem_disk_Disk_keep_v2_1, louts_disk_Disk_keep_v2_1, L_disk_Disk_keep_v2_1⟩
theorem kl_disk_Disk_keep_v2_1 : Known Try.prog fd_disk_Disk_keep_v2 [(63, C_disk_Disk_Crash_1)] [] := known_of mixT (by kernel_rfl) ⟨ok_disk_Disk_Crash_1, trivial⟩ trivial
theorem okl_disk_Disk_keep_v2_1 : LConOK Try.prog (fd_disk_Disk_keep_v2.loop 1) D_disk_Disk_keep_v2_1 := lcon_of kl_disk_Disk_keep_v2_1 (byRef := br_disk_Disk_keep_v2) (lan := an_disk_Disk_keep_v2 1) (id := 1) (by kernel_rfl) ltmps_disk_Disk_keep_v2_1 lmem_disk_Disk_keep_v2_1 louts_disk_Disk_keep_v2_1 (fun a b kn kr => ltree_disk_Disk_keep_v2_1 F_disk_Disk_Crash_1 a.2.1 a.2.2.1 b.1.1 b.2.1.1 b.2.2.1 b.2.2.2.1 kn kr) (fun a b => hl_disk_Disk_keep_v2_1 F_disk_Disk_Crash_1 a.2.1 a.2.2.1 b.1.1 b.2.1.1 b.2.2.1 b.2.2.2.1 _ _) (fun a b kn kr => nl_disk_Disk_keep_v2_1 F_disk_Disk_Crash_1 a.2.1 a.2.2.1 b.1.1 b.2.1.1 b.2.2.1 b.2.2.2.1 kn kr)
theorem h_disk_Disk_keep_v2 (F_disk_Disk_Crash_1 : A_disk_Disk_Crash_1 → M_disk_Disk_Crash_1 → Option O_disk_Disk_Crash_1) (L_disk_Disk_keep_v2_1 : LT_disk_Disk_keep_v2_1 → LM_disk_Disk_keep_v2_1 → Option LO_disk_Disk_keep_v2_1) (x1 : Int) (x2 : List Int) (x3 : List ByteArray) (x4 : List (Int × ByteArray)) {α : Type} (K : SV → Mem → Option α) : callBody (table [(63, ⟨args_disk_Disk_Crash_1, mem_disk_Disk_Crash_1, outs_disk_Disk_Crash_1, F_disk_Disk_Crash_1⟩)] [(1, ⟨ltmps_disk_Disk_keep_v2_1, lmem_disk_Disk_keep_v2_1, louts_disk_Disk_keep_v2_1, L_disk_Disk_keep_v2_1⟩)]) br_disk_Disk_keep_v2 rc_disk_Disk_keep_v2 fd_disk_Disk_keep_v2 (args_disk_Disk_keep_v2.svs ((), ())) (mem_disk_Disk_keep_v2.mem ((x1, ()), ((x2, ()), (x3, (x4, ()))))) K = tree_disk_Disk_keep_v2 L_disk_Disk_keep_v2_1 x1 x2 x3 x4 (fun r => outsRun outs_disk_Disk_keep_v2 r K) := by kernel_rfl
noncomputable def C_disk_Disk_keep_v2 : Con := ⟨args_disk_Disk_keep_v2, mem_disk_Disk_keep_v2, outs_disk_Disk_keep_v2, F_disk_Disk_keep_v2⟩
theorem k_disk_Disk_keep_v2 : Known Try.prog fd_disk_Disk_keep_v2 [(63, C_disk_Disk_Crash_1)] [(1, D_disk_Disk_keep_v2_1)] := known_of mixT (by kernel_rfl) ⟨ok_disk_Disk_Crash_1, trivial⟩ ⟨okl_disk_Disk_keep_v2_1, trivial⟩
theorem fn_disk_Disk_keep_v2 : FnOK Try.prog an_disk_Disk_keep_v2 62 Try.f62 fd_disk_Disk_keep_v2 := fnOK (by kernel_rfl) (by kernel_rfl) (by kernel_rfl)
theorem ok_disk_Disk_keep_v2 : ConOK Try.prog 62 C_disk_Disk_keep_v2 := con_of k_disk_Disk_keep_v2 (byRef := br_disk_Disk_keep_v2) fn_disk_Disk_keep_v2 rc_disk_Disk_keep_v2 args_disk_Disk_keep_v2 mem_disk_Disk_keep_v2 outs_disk_Disk_keep_v2 (fun a b K => tree_disk_Disk_keep_v2 L_disk_Disk_keep_v2_1 b.1.1 b.2.1.1 b.2.2.1 b.2.2.2.1 K) (fun a b => h_disk_Disk_keep_v2 F_disk_Disk_Crash_1 L_disk_Disk_keep_v2_1 b.1.1 b.2.1.1 b.2.2.1 b.2.2.2.1 _) (fun a b K => n_disk_Disk_keep_v2 L_disk_Disk_keep_v2_1 b.1.1 b.2.1.1 b.2.2.1 b.2.2.2.1 K)

def an_disk_Disk_Flush : Nat → LAnn := fun n => (find n []).getD ⟨0, [], [], [], []⟩
noncomputable def fd_disk_Disk_Flush : FD := fdOf Try.prog an_disk_Disk_Flush Try.f57
def br_disk_Disk_Flush : FuncId → CC := fun f => ⟨([62] : List Nat).contains f, (find f [(62, [0, 1, 2, 3, 4, 5, 6, 7, 8, 9, 10, 11])]).getD [], (find f [(62, [(0, 2, 127, (.cons (.int .i64) (.cons .str .nil)))])]).getD []⟩
def rc_disk_Disk_Flush : RC := ⟨false, [(0, 2, 127, (.cons (.int .i64) (.cons .str .nil)))], [(0, 2, 2)]⟩
theorem h_disk_Disk_Flush (F_disk_Disk_keep_v1 : A_disk_Disk_keep_v1 → M_disk_Disk_keep_v1 → Option O_disk_Disk_keep_v1) (F_disk_Disk_keep_v2 : A_disk_Disk_keep_v2 → M_disk_Disk_keep_v2 → Option O_disk_Disk_keep_v2) (x1 : Int) (x2 : List ByteArray) (x3 : List (Int × ByteArray)) {α : Type} (K : SV → Mem → Option α) : callBody (table [(62, ⟨args_disk_Disk_keep_v1, mem_disk_Disk_keep_v1, outs_disk_Disk_keep_v1, F_disk_Disk_keep_v1⟩), (62, ⟨args_disk_Disk_keep_v2, mem_disk_Disk_keep_v2, outs_disk_Disk_keep_v2, F_disk_Disk_keep_v2⟩)] []) br_disk_Disk_Flush rc_disk_Disk_Flush fd_disk_Disk_Flush (args_disk_Disk_Flush.svs ()) (mem_disk_Disk_Flush.mem ((x1, ()), (x2, (x3, ())))) K = tree_disk_Disk_Flush F_disk_Disk_keep_v1 x1 x2 x3 (fun r => outsRun outs_disk_Disk_Flush r K) := by kernel_rfl
noncomputable def C_disk_Disk_Flush : Con := ⟨args_disk_Disk_Flush, mem_disk_Disk_Flush, outs_disk_Disk_Flush, F_disk_Disk_Flush⟩
theorem k_disk_Disk_Flush : Known Try.prog fd_disk_Disk_Flush [(62, C_disk_Disk_keep_v1), (62, C_disk_Disk_keep_v2)] [] := known_of mixT (by kernel_rfl) ⟨ok_disk_Disk_keep_v1, ok_disk_Disk_keep_v2, trivial⟩ trivial
theorem fn_disk_Disk_Flush : FnOK Try.prog an_disk_Disk_Flush 57 Try.f57 fd_disk_Disk_Flush := fnOK (by kernel_rfl) (by kernel_rfl) (by kernel_rfl)
theorem ok_disk_Disk_Flush : ConOK Try.prog 57 C_disk_Disk_Flush := con_of k_disk_Disk_Flush (byRef := br_disk_Disk_Flush) fn_disk_Disk_Flush rc_disk_Disk_Flush args_disk_Disk_Flush mem_disk_Disk_Flush outs_disk_Disk_Flush (fun a b K => tree_disk_Disk_Flush F_disk_Disk_keep_v1 b.1.1 b.2.1 b.2.2.1 K) (fun a b => h_disk_Disk_Flush F_disk_Disk_keep_v1 F_disk_Disk_keep_v2 b.1.1 b.2.1 b.2.2.1 _) (fun a b K => n_disk_Disk_Flush F_disk_Disk_keep_v1 b.1.1 b.2.1 b.2.2.1 K)

def an_disk_Disk_Crash : Nat → LAnn := fun n => (find n []).getD ⟨0, [], [], [], []⟩
noncomputable def fd_disk_Disk_Crash : FD := fdOf Try.prog an_disk_Disk_Crash Try.f23
def br_disk_Disk_Crash : FuncId → CC := fun f => ⟨([62] : List Nat).contains f, (find f [(62, [0, 1, 2, 3, 4, 5, 6, 7, 8, 9, 10, 11])]).getD [], (find f [(62, [(0, 2, 127, (.cons (.int .i64) (.cons .str .nil)))])]).getD []⟩
def rc_disk_Disk_Crash : RC := ⟨false, [(0, 2, 127, (.cons (.int .i64) (.cons .str .nil)))], [(0, 2, 2)]⟩
theorem h_disk_Disk_Crash (F_disk_Disk_keep_v1 : A_disk_Disk_keep_v1 → M_disk_Disk_keep_v1 → Option O_disk_Disk_keep_v1) (F_disk_Disk_keep_v2 : A_disk_Disk_keep_v2 → M_disk_Disk_keep_v2 → Option O_disk_Disk_keep_v2) (x1 : List Int) (x2 : Int) (x3 : List ByteArray) (x4 : List (Int × ByteArray)) {α : Type} (K : SV → Mem → Option α) : callBody (table [(62, ⟨args_disk_Disk_keep_v1, mem_disk_Disk_keep_v1, outs_disk_Disk_keep_v1, F_disk_Disk_keep_v1⟩), (62, ⟨args_disk_Disk_keep_v2, mem_disk_Disk_keep_v2, outs_disk_Disk_keep_v2, F_disk_Disk_keep_v2⟩)] []) br_disk_Disk_Crash rc_disk_Disk_Crash fd_disk_Disk_Crash (args_disk_Disk_Crash.svs (x1, ())) (mem_disk_Disk_Crash.mem ((x2, ()), (x3, (x4, ())))) K = tree_disk_Disk_Crash F_disk_Disk_keep_v2 x1 x2 x3 x4 (fun r => outsRun outs_disk_Disk_Crash r K) := by kernel_rfl
noncomputable def C_disk_Disk_Crash : Con := ⟨args_disk_Disk_Crash, mem_disk_Disk_Crash, outs_disk_Disk_Crash, F_disk_Disk_Crash⟩
theorem k_disk_Disk_Crash : Known Try.prog fd_disk_Disk_Crash [(62, C_disk_Disk_keep_v1), (62, C_disk_Disk_keep_v2)] [] := known_of mixT (by kernel_rfl) ⟨ok_disk_Disk_keep_v1, ok_disk_Disk_keep_v2, trivial⟩ trivial
theorem fn_disk_Disk_Crash : FnOK Try.prog an_disk_Disk_Crash 23 Try.f23 fd_disk_Disk_Crash := fnOK (by kernel_rfl) (by kernel_rfl) (by kernel_rfl)
theorem ok_disk_Disk_Crash : ConOK Try.prog 23 C_disk_Disk_Crash := con_of k_disk_Disk_Crash (byRef := br_disk_Disk_Crash) fn_disk_Disk_Crash rc_disk_Disk_Crash args_disk_Disk_Crash mem_disk_Disk_Crash outs_disk_Disk_Crash (fun a b K => tree_disk_Disk_Crash F_disk_Disk_keep_v2 a.1 b.1.1 b.2.1 b.2.2.1 K) (fun a b => h_disk_Disk_Crash F_disk_Disk_keep_v1 F_disk_Disk_keep_v2 a.1 b.1.1 b.2.1 b.2.2.1 _) (fun a b K => n_disk_Disk_Crash F_disk_Disk_keep_v2 a.1 b.1.1 b.2.1 b.2.2.1 K)

def an_disk_Disk_Write : Nat → LAnn := fun n => (find n []).getD ⟨0, [], [], [], []⟩
noncomputable def fd_disk_Disk_Write : FD := fdOf Try.prog an_disk_Disk_Write Try.f55
def br_disk_Disk_Write : FuncId → CC := fun f => ⟨([84] : List Nat).contains f, (find f [(84, [0, 1, 2, 3, 4, 5, 6, 7, 8, 9, 10, 11])]).getD [], (find f [(84, [(0, 2, 127, (.cons (.int .i64) (.cons .str .nil)))])]).getD []⟩
def rc_disk_Disk_Write : RC := ⟨false, [(1, 2, 127, (.cons (.int .i64) (.cons .str .nil)))], [(1, 2, 2)]⟩
theorem h_disk_Disk_Write (F_disk_Disk_has : A_disk_Disk_has → M_disk_Disk_has → Option O_disk_Disk_has) (F_strings_Repeat : A_strings_Repeat → M_strings_Repeat → Option O_strings_Repeat) (x1 : Int) (x2 : ByteArray) (x3 : Int) (x4 : List ByteArray) (x5 : List (Int × ByteArray)) {α : Type} (K : SV → Mem → Option α) : callBody (table [(84, ⟨args_disk_Disk_has, mem_disk_Disk_has, outs_disk_Disk_has, F_disk_Disk_has⟩), (80, ⟨args_strings_Repeat, mem_strings_Repeat, outs_strings_Repeat, F_strings_Repeat⟩)] []) br_disk_Disk_Write rc_disk_Disk_Write fd_disk_Disk_Write (args_disk_Disk_Write.svs (x1, (x2, ()))) (mem_disk_Disk_Write.mem ((x3, ()), (x4, (x5, ())))) K = tree_disk_Disk_Write F_disk_Disk_has F_strings_Repeat x1 x2 x3 x4 x5 (fun r => outsRun outs_disk_Disk_Write r K) := by kernel_rfl
noncomputable def C_disk_Disk_Write : Con := ⟨args_disk_Disk_Write, mem_disk_Disk_Write, outs_disk_Disk_Write, F_disk_Disk_Write⟩
theorem k_disk_Disk_Write : Known Try.prog fd_disk_Disk_Write [(84, C_disk_Disk_has), (80, C_strings_Repeat)] [] := known_of mixT (by kernel_rfl) ⟨ok_disk_Disk_has, ok_strings_Repeat, trivial⟩ trivial
theorem fn_disk_Disk_Write : FnOK Try.prog an_disk_Disk_Write 55 Try.f55 fd_disk_Disk_Write := fnOK (by kernel_rfl) (by kernel_rfl) (by kernel_rfl)
theorem ok_disk_Disk_Write : ConOK Try.prog 55 C_disk_Disk_Write := con_of k_disk_Disk_Write (byRef := br_disk_Disk_Write) fn_disk_Disk_Write rc_disk_Disk_Write args_disk_Disk_Write mem_disk_Disk_Write outs_disk_Disk_Write (fun a b K => tree_disk_Disk_Write F_disk_Disk_has F_strings_Repeat a.1 a.2.1 b.1.1 b.2.1 b.2.2.1 K) (fun a b => h_disk_Disk_Write F_disk_Disk_has F_strings_Repeat a.1 a.2.1 b.1.1 b.2.1 b.2.2.1 _) (fun a b K => n_disk_Disk_Write F_disk_Disk_has F_strings_Repeat a.1 a.2.1 b.1.1 b.2.1 b.2.2.1 K)

def an_disk_New : Nat → LAnn := fun n => (find n [(5, ⟨5, [1, 6, 24, 25], [(.cell 1736 1, 501, 9, (.cons .str .nil))], [25, 26, 27, 28, 29, 30, 31, 32, 33, 34, 35, 36, 37, 38], [6]⟩)]).getD ⟨0, [], [], [], []⟩
noncomputable def fd_disk_New : FD := fdOf Try.prog an_disk_New Try.f49
def br_disk_New : FuncId → CC := fun f => ⟨([] : List Nat).contains f, (find f []).getD [], (find f []).getD []⟩
def rc_disk_New : RC := ⟨false, [(0, 2, 127, (.cons (.int .i64) (.cons .str .nil)))], []⟩
theorem hl_disk_New_5 (F_strings_Repeat : A_strings_Repeat → M_strings_Repeat → Option O_strings_Repeat) (x1 : Int) (x2 : Int) (x3 : Int) (x4 : List ByteArray) (x5 : Int) {α : Type} (kn : St → Option α) (K : Out → St → Option α) : round (table [(80, ⟨args_strings_Repeat, mem_strings_Repeat, outs_strings_Repeat, F_strings_Repeat⟩)] []) br_disk_New (an_disk_New 5) (fd_disk_New.loop 5) kn ⟨ltmps_disk_New_5.svs (x1, (x2, (x3, ()))), lmem_disk_New_5.mem (x4, ((x5, ()), ()))⟩ K = ltree_disk_New_5 F_strings_Repeat x1 x2 x3 x4 x5 (fun a b => kn ⟨ltmps_disk_New_5.svs a, lmem_disk_New_5.mem b⟩) (fun r => outLsRun louts_disk_New_5 r K) := by kernel_rfl
noncomputable def D_disk_New_5 : LCon := ⟨ltmps_disk_New_5, lmem_disk_New_5, louts_disk_New_5, L_disk_New_5⟩
theorem kl_disk_New_5 : Known Try.prog fd_disk_New [(80, C_strings_Repeat)] [] := known_of mixT (by kernel_rfl) ⟨ok_strings_Repeat, trivial⟩ trivial
theorem okl_disk_New_5 : LConOK Try.prog (fd_disk_New.loop 5) D_disk_New_5 := lcon_of kl_disk_New_5 (byRef := br_disk_New) (lan := an_disk_New 5) (id := 5) (by kernel_rfl) ltmps_disk_New_5 lmem_disk_New_5 louts_disk_New_5 (fun a b kn kr => ltree_disk_New_5 F_strings_Repeat a.1 a.2.1 a.2.2.1 b.1 b.2.1.1 kn kr) (fun a b => hl_disk_New_5 F_strings_Repeat a.1 a.2.1 a.2.2.1 b.1 b.2.1.1 _ _) (fun a b kn kr => nl_disk_New_5 F_strings_Repeat a.1 a.2.1 a.2.2.1 b.1 b.2.1.1 kn kr)
theorem h_disk_New (F_strings_Repeat : A_strings_Repeat → M_strings_Repeat → Option O_strings_Repeat) (L_disk_New_5 : LT_disk_New_5 → LM_disk_New_5 → Option LO_disk_New_5) (x1 : Int) (x2 : Int) {α : Type} (K : SV → Mem → Option α) : callBody (table [(80, ⟨args_strings_Repeat, mem_strings_Repeat, outs_strings_Repeat, F_strings_Repeat⟩)] [(5, ⟨ltmps_disk_New_5, lmem_disk_New_5, louts_disk_New_5, L_disk_New_5⟩)]) br_disk_New rc_disk_New fd_disk_New (args_disk_New.svs (x1, (x2, ()))) (mem_disk_New.mem ()) K = tree_disk_New L_disk_New_5 x1 x2 (fun r => outsRun outs_disk_New r K) := by kernel_rfl
noncomputable def C_disk_New : Con := ⟨args_disk_New, mem_disk_New, outs_disk_New, F_disk_New⟩
theorem k_disk_New : Known Try.prog fd_disk_New [(80, C_strings_Repeat)] [(5, D_disk_New_5)] := known_of mixT (by kernel_rfl) ⟨ok_strings_Repeat, trivial⟩ ⟨okl_disk_New_5, trivial⟩
theorem fn_disk_New : FnOK Try.prog an_disk_New 49 Try.f49 fd_disk_New := fnOK (by kernel_rfl) (by kernel_rfl) (by kernel_rfl)
theorem ok_disk_New : ConOK Try.prog 49 C_disk_New := con_of k_disk_New (byRef := br_disk_New) fn_disk_New rc_disk_New args_disk_New mem_disk_New outs_disk_New (fun a b K => tree_disk_New L_disk_New_5 a.1 a.2.1 K) (fun a b => h_disk_New F_strings_Repeat L_disk_New_5 a.1 a.2.1 _) (fun a b K => n_disk_New L_disk_New_5 a.1 a.2.1 K)

end Go.Proofs.Ytlfedmjjjbhnpaa.S2
