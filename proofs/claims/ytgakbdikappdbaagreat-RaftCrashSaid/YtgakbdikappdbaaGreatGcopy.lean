/- Plain forms of the program's functions, by program. -/
import Derived.Test.YtgakbdikappdbaaGreatS2y
set_option maxRecDepth 100000
set_option maxHeartbeats 0
set_option linter.unusedVariables false
set_option linter.unusedSimpArgs false
namespace Go.Proofs.YtgakbdikappdbaaGreat.S2
open Go
def args_slices_Clone_uint64 : SkL := (.cons (.leaf (.slc 22 (.cons (.int .u64) .nil))) .nil)
def mem_slices_Clone_uint64 : MSk := []
def outs_slices_Clone_uint64 : List OutC := [⟨(.leaf (.slc 22 (.cons (.int .u64) .nil))), []⟩]
abbrev A_slices_Clone_uint64 : Type := (List Int × Unit)
abbrev M_slices_Clone_uint64 : Type := Unit
abbrev O_slices_Clone_uint64 : Type := List Int × Unit
def tree_slices_Clone_uint64 {α : Type} (x1 : List Int) (K : O_slices_Clone_uint64 → Option α) : Option α :=
  cond (decide (0 < x1.length))
  (cond (decide ((0 + x1.length) * 8 ≤ 140737488355328))
   (K ([] ++ x1, ()))
   (none))
  (none)
def F_slices_Clone_uint64 : A_slices_Clone_uint64 → M_slices_Clone_uint64 → Option O_slices_Clone_uint64 := fun a b => cond (decide (a.1.length * 8 ≤ 140737488355328)) (some (a.1, ())) none
def args_slices_Clone_api_Peer : SkL := (.cons (.leaf (.slc 54 (.cons (.int .u64) (.cons (.int .u64) (.cons (.int .u64) .nil))))) .nil)
def mem_slices_Clone_api_Peer : MSk := []
def outs_slices_Clone_api_Peer : List OutC := [⟨(.leaf (.slc 54 (.cons (.int .u64) (.cons (.int .u64) (.cons (.int .u64) .nil))))), []⟩]
abbrev A_slices_Clone_api_Peer : Type := ((List (Int × Int × Int)) × Unit)
abbrev M_slices_Clone_api_Peer : Type := Unit
abbrev O_slices_Clone_api_Peer : Type := (List (Int × Int × Int)) × Unit
def tree_slices_Clone_api_Peer {α : Type} (x1 : List (Int × Int × Int)) (K : O_slices_Clone_api_Peer → Option α) : Option α :=
  cond (decide (0 < x1.length))
  (cond (decide ((0 + x1.length) * 24 ≤ 140737488355328))
   (K ([] ++ x1, ()))
   (none))
  (none)
def F_slices_Clone_api_Peer : A_slices_Clone_api_Peer → M_slices_Clone_api_Peer → Option O_slices_Clone_api_Peer := fun a b => cond (decide (a.1.length * 24 ≤ 140737488355328)) (some (a.1, ())) none
def args_slices_Clone_api_Entry : SkL := (.cons (.leaf (.slc 75 (.cons (.int .u64) (.cons (.int .i64) (.cons .str .nil))))) .nil)
def mem_slices_Clone_api_Entry : MSk := []
def outs_slices_Clone_api_Entry : List OutC := [⟨(.leaf (.slc 75 (.cons (.int .u64) (.cons (.int .i64) (.cons .str .nil))))), []⟩]
abbrev A_slices_Clone_api_Entry : Type := ((List (Int × Int × ByteArray)) × Unit)
abbrev M_slices_Clone_api_Entry : Type := Unit
abbrev O_slices_Clone_api_Entry : Type := (List (Int × Int × ByteArray)) × Unit
def tree_slices_Clone_api_Entry {α : Type} (x1 : List (Int × Int × ByteArray)) (K : O_slices_Clone_api_Entry → Option α) : Option α :=
  cond (decide (0 < x1.length))
  (cond (decide ((0 + x1.length) * 32 ≤ 140737488355328))
   (K ([] ++ x1, ()))
   (none))
  (none)
def F_slices_Clone_api_Entry : A_slices_Clone_api_Entry → M_slices_Clone_api_Entry → Option O_slices_Clone_api_Entry := fun a b => cond (decide (a.1.length * 32 ≤ 140737488355328)) (some (a.1, ())) none
def args_raft_Copy : SkL := (.cons (.agg (.cons (.leaf (.int .u64)) (.cons (.leaf (.slc 22 (.cons (.int .u64) .nil))) (.cons (.leaf (.int .u64)) (.cons (.leaf (.int .u64)) (.cons (.leaf (.int .u64)) (.cons (.leaf (.int .u64)) (.cons (.leaf (.slc 75 (.cons (.int .u64) (.cons (.int .i64) (.cons .str .nil))))) (.cons (.leaf .str) (.cons (.leaf (.int .i64)) (.cons (.leaf (.int .u64)) (.cons (.leaf (.int .u64)) (.cons (.leaf (.slc 22 (.cons (.int .u64) .nil))) (.cons (.leaf (.slc 54 (.cons (.int .u64) (.cons (.int .u64) (.cons (.int .u64) .nil))))) (.cons (.leaf (.int .i64)) .nil))))))))))))))) .nil)
def mem_raft_Copy : MSk := []
def outs_raft_Copy : List OutC := [⟨(.agg (.cons (.leaf (.int .u64)) (.cons (.leaf (.slc 22 (.cons (.int .u64) .nil))) (.cons (.leaf (.int .u64)) (.cons (.leaf (.int .u64)) (.cons (.leaf (.int .u64)) (.cons (.leaf (.int .u64)) (.cons (.leaf (.slc 75 (.cons (.int .u64) (.cons (.int .i64) (.cons .str .nil))))) (.cons (.leaf .str) (.cons (.leaf (.int .i64)) (.cons (.leaf (.int .u64)) (.cons (.leaf (.int .u64)) (.cons (.leaf (.slc 22 (.cons (.int .u64) .nil))) (.cons (.leaf (.slc 54 (.cons (.int .u64) (.cons (.int .u64) (.cons (.int .u64) .nil))))) (.cons (.leaf (.int .i64)) .nil))))))))))))))), []⟩]
abbrev A_raft_Copy : Type := ((Int × List Int × Int × Int × Int × Int × (List (Int × Int × ByteArray)) × ByteArray × Int × Int × Int × List Int × (List (Int × Int × Int)) × Int × Unit) × Unit)
abbrev M_raft_Copy : Type := Unit
abbrev O_raft_Copy : Type := (Int × List Int × Int × Int × Int × Int × (List (Int × Int × ByteArray)) × ByteArray × Int × Int × Int × List Int × (List (Int × Int × Int)) × Int × Unit) × Unit
def tree_raft_Copy (F_slices_Clone_uint64 : A_slices_Clone_uint64 → M_slices_Clone_uint64 → Option O_slices_Clone_uint64) (F_slices_Clone_api_Peer : A_slices_Clone_api_Peer → M_slices_Clone_api_Peer → Option O_slices_Clone_api_Peer) (F_slices_Clone_api_Entry : A_slices_Clone_api_Entry → M_slices_Clone_api_Entry → Option O_slices_Clone_api_Entry) {α : Type} (x1 : Int) (x2 : List Int) (x3 : Int) (x4 : Int) (x5 : Int) (x6 : Int) (x7 : List (Int × Int × ByteArray)) (x8 : ByteArray) (x9 : Int) (x10 : Int) (x11 : Int) (x12 : List Int) (x13 : List (Int × Int × Int)) (x14 : Int) (K : O_raft_Copy → Option α) : Option α :=
  (F_slices_Clone_uint64 (x2, ()) ()).bind fun r1 =>
  (F_slices_Clone_uint64 (x12, ()) ()).bind fun r2 =>
  (F_slices_Clone_api_Peer (x13, ()) ()).bind fun r3 =>
  (F_slices_Clone_api_Entry (x7, ()) ()).bind fun r4 =>
  K ((x1, (r1.fst, (x3, (x4, (x5, (x6, (r4.fst, (x8, (x9, (x10, (x11, (r2.fst, (r3.fst, (x14, ())))))))))))))), ())
noncomputable def F_raft_Copy : A_raft_Copy → M_raft_Copy → Option O_raft_Copy := fun a b => tree_raft_Copy F_slices_Clone_uint64 F_slices_Clone_api_Peer F_slices_Clone_api_Entry a.1.1 a.1.2.1 a.1.2.2.1 a.1.2.2.2.1 a.1.2.2.2.2.1 a.1.2.2.2.2.2.1 a.1.2.2.2.2.2.2.1 a.1.2.2.2.2.2.2.2.1 a.1.2.2.2.2.2.2.2.2.1 a.1.2.2.2.2.2.2.2.2.2.1 a.1.2.2.2.2.2.2.2.2.2.2.1 a.1.2.2.2.2.2.2.2.2.2.2.2.1 a.1.2.2.2.2.2.2.2.2.2.2.2.2.1 a.1.2.2.2.2.2.2.2.2.2.2.2.2.2.1 some
theorem n_raft_Copy (F_slices_Clone_uint64 : A_slices_Clone_uint64 → M_slices_Clone_uint64 → Option O_slices_Clone_uint64) (F_slices_Clone_api_Peer : A_slices_Clone_api_Peer → M_slices_Clone_api_Peer → Option O_slices_Clone_api_Peer) (F_slices_Clone_api_Entry : A_slices_Clone_api_Entry → M_slices_Clone_api_Entry → Option O_slices_Clone_api_Entry) (x1 : Int) (x2 : List Int) (x3 : Int) (x4 : Int) (x5 : Int) (x6 : Int) (x7 : List (Int × Int × ByteArray)) (x8 : ByteArray) (x9 : Int) (x10 : Int) (x11 : Int) (x12 : List Int) (x13 : List (Int × Int × Int)) (x14 : Int) {α : Type} (K : O_raft_Copy → Option α) : tree_raft_Copy F_slices_Clone_uint64 F_slices_Clone_api_Peer F_slices_Clone_api_Entry x1 x2 x3 x4 x5 x6 x7 x8 x9 x10 x11 x12 x13 x14 K = (tree_raft_Copy F_slices_Clone_uint64 F_slices_Clone_api_Peer F_slices_Clone_api_Entry x1 x2 x3 x4 x5 x6 x7 x8 x9 x10 x11 x12 x13 x14 some).bind K := by simp only [tree_raft_Copy, bind_cond, bind_none', bind_some', bind_bind', bind_sum]
theorem Fe_raft_Copy (x1 : Int) (x2 : List Int) (x3 : Int) (x4 : Int) (x5 : Int) (x6 : Int) (x7 : List (Int × Int × ByteArray)) (x8 : ByteArray) (x9 : Int) (x10 : Int) (x11 : Int) (x12 : List Int) (x13 : List (Int × Int × Int)) (x14 : Int) : F_raft_Copy ((x1, (x2, (x3, (x4, (x5, (x6, (x7, (x8, (x9, (x10, (x11, (x12, (x13, (x14, ())))))))))))))), ()) () = tree_raft_Copy F_slices_Clone_uint64 F_slices_Clone_api_Peer F_slices_Clone_api_Entry x1 x2 x3 x4 x5 x6 x7 x8 x9 x10 x11 x12 x13 x14 some := rfl
def args_raft_begun : SkL := (.cons (.agg (.cons (.leaf (.int .u64)) (.cons (.leaf (.slc 22 (.cons (.int .u64) .nil))) (.cons (.leaf (.int .u64)) (.cons (.leaf (.int .u64)) (.cons (.leaf (.int .u64)) (.cons (.leaf (.int .u64)) (.cons (.leaf (.slc 75 (.cons (.int .u64) (.cons (.int .i64) (.cons .str .nil))))) (.cons (.leaf .str) (.cons (.leaf (.int .i64)) (.cons (.leaf (.int .u64)) (.cons (.leaf (.int .u64)) (.cons (.leaf (.slc 22 (.cons (.int .u64) .nil))) (.cons (.leaf (.slc 54 (.cons (.int .u64) (.cons (.int .u64) (.cons (.int .u64) .nil))))) (.cons (.leaf (.int .i64)) .nil))))))))))))))) (.cons (.leaf (.int .i64)) .nil))
def mem_raft_begun : MSk := []
def outs_raft_begun : List OutC := [⟨(.const (.ptr 0 0 0)), [(0, .cells (.cons (.leaf (.int .u64)) (.cons (.leaf (.slc 22 (.cons (.int .u64) .nil))) (.cons (.leaf (.int .u64)) (.cons (.leaf (.int .u64)) (.cons (.leaf (.int .u64)) (.cons (.leaf (.int .u64)) (.cons (.leaf (.slc 75 (.cons (.int .u64) (.cons (.int .i64) (.cons .str .nil))))) (.cons (.leaf .str) (.cons (.leaf (.int .i64)) (.cons (.leaf (.int .u64)) (.cons (.leaf (.int .u64)) (.cons (.leaf (.slc 22 (.cons (.int .u64) .nil))) (.cons (.leaf (.slc 54 (.cons (.int .u64) (.cons (.int .u64) (.cons (.int .u64) .nil))))) (.cons (.leaf (.int .i64)) (.cons (.leaf (.int .i64)) (.cons (.const .nils) .nil)))))))))))))))))]⟩]
abbrev A_raft_begun : Type := ((Int × List Int × Int × Int × Int × Int × (List (Int × Int × ByteArray)) × ByteArray × Int × Int × Int × List Int × (List (Int × Int × Int)) × Int × Unit) × Int × Unit)
abbrev M_raft_begun : Type := Unit
abbrev O_raft_begun : Type := Unit × ((Int × List Int × Int × Int × Int × Int × (List (Int × Int × ByteArray)) × ByteArray × Int × Int × Int × List Int × (List (Int × Int × Int)) × Int × Int × Unit) × Unit)
def tree_raft_begun (F_raft_Copy : A_raft_Copy → M_raft_Copy → Option O_raft_Copy) {α : Type} (x1 : Int) (x2 : List Int) (x3 : Int) (x4 : Int) (x5 : Int) (x6 : Int) (x7 : List (Int × Int × ByteArray)) (x8 : ByteArray) (x9 : Int) (x10 : Int) (x11 : Int) (x12 : List Int) (x13 : List (Int × Int × Int)) (x14 : Int) (x15 : Int) (K : O_raft_begun → Option α) : Option α :=
  (F_raft_Copy ((x1, x2, x3, x4, x5, x6, x7, x8, x9, x10, x11, x12, x13, x14, ()), ()) ()).bind fun r1 =>
  K ((), ((r1.fst.fst, (r1.fst.snd.fst, (r1.fst.snd.snd.fst, (r1.fst.snd.snd.snd.fst, (r1.fst.snd.snd.snd.snd.fst, (r1.fst.snd.snd.snd.snd.snd.fst, (r1.fst.snd.snd.snd.snd.snd.snd.fst, (r1.fst.snd.snd.snd.snd.snd.snd.snd.fst, (r1.fst.snd.snd.snd.snd.snd.snd.snd.snd.fst, (r1.fst.snd.snd.snd.snd.snd.snd.snd.snd.snd.fst, (r1.fst.snd.snd.snd.snd.snd.snd.snd.snd.snd.snd.fst, (r1.fst.snd.snd.snd.snd.snd.snd.snd.snd.snd.snd.snd.fst, (r1.fst.snd.snd.snd.snd.snd.snd.snd.snd.snd.snd.snd.snd.fst, (r1.fst.snd.snd.snd.snd.snd.snd.snd.snd.snd.snd.snd.snd.snd.fst, (if (if 1000 < x15 then 1000 else x15) > 1 then if 1000 < x15 then 1000 else x15 else 1, ()))))))))))))))), ()))
noncomputable def F_raft_begun : A_raft_begun → M_raft_begun → Option O_raft_begun := fun a b => tree_raft_begun F_raft_Copy a.1.1 a.1.2.1 a.1.2.2.1 a.1.2.2.2.1 a.1.2.2.2.2.1 a.1.2.2.2.2.2.1 a.1.2.2.2.2.2.2.1 a.1.2.2.2.2.2.2.2.1 a.1.2.2.2.2.2.2.2.2.1 a.1.2.2.2.2.2.2.2.2.2.1 a.1.2.2.2.2.2.2.2.2.2.2.1 a.1.2.2.2.2.2.2.2.2.2.2.2.1 a.1.2.2.2.2.2.2.2.2.2.2.2.2.1 a.1.2.2.2.2.2.2.2.2.2.2.2.2.2.1 a.2.1 some
theorem n_raft_begun (F_raft_Copy : A_raft_Copy → M_raft_Copy → Option O_raft_Copy) (x1 : Int) (x2 : List Int) (x3 : Int) (x4 : Int) (x5 : Int) (x6 : Int) (x7 : List (Int × Int × ByteArray)) (x8 : ByteArray) (x9 : Int) (x10 : Int) (x11 : Int) (x12 : List Int) (x13 : List (Int × Int × Int)) (x14 : Int) (x15 : Int) {α : Type} (K : O_raft_begun → Option α) : tree_raft_begun F_raft_Copy x1 x2 x3 x4 x5 x6 x7 x8 x9 x10 x11 x12 x13 x14 x15 K = (tree_raft_begun F_raft_Copy x1 x2 x3 x4 x5 x6 x7 x8 x9 x10 x11 x12 x13 x14 x15 some).bind K := by simp only [tree_raft_begun, bind_cond, bind_none', bind_some', bind_bind', bind_sum]
theorem Fe_raft_begun (x1 : Int) (x2 : List Int) (x3 : Int) (x4 : Int) (x5 : Int) (x6 : Int) (x7 : List (Int × Int × ByteArray)) (x8 : ByteArray) (x9 : Int) (x10 : Int) (x11 : Int) (x12 : List Int) (x13 : List (Int × Int × Int)) (x14 : Int) (x15 : Int) : F_raft_begun ((x1, (x2, (x3, (x4, (x5, (x6, (x7, (x8, (x9, (x10, (x11, (x12, (x13, (x14, ())))))))))))))), (x15, ())) () = tree_raft_begun F_raft_Copy x1 x2 x3 x4 x5 x6 x7 x8 x9 x10 x11 x12 x13 x14 x15 some := rfl
def args_raft_Restart : SkL := (.cons (.agg (.cons (.leaf (.int .u64)) (.cons (.leaf (.slc 22 (.cons (.int .u64) .nil))) (.cons (.leaf (.int .u64)) (.cons (.leaf (.int .u64)) (.cons (.leaf (.int .u64)) (.cons (.leaf (.int .u64)) (.cons (.leaf (.slc 75 (.cons (.int .u64) (.cons (.int .i64) (.cons .str .nil))))) (.cons (.leaf .str) (.cons (.leaf (.int .i64)) (.cons (.leaf (.int .u64)) (.cons (.leaf (.int .u64)) (.cons (.leaf (.slc 22 (.cons (.int .u64) .nil))) (.cons (.leaf (.slc 54 (.cons (.int .u64) (.cons (.int .u64) (.cons (.int .u64) .nil))))) (.cons (.leaf (.int .i64)) .nil))))))))))))))) .nil)
def mem_raft_Restart : MSk := []
def outs_raft_Restart : List OutC := [⟨(.agg (.cons (.leaf (.int .u64)) (.cons (.leaf (.slc 22 (.cons (.int .u64) .nil))) (.cons (.leaf (.int .u64)) (.cons (.leaf (.int .u64)) (.cons (.leaf (.int .u64)) (.cons (.leaf (.int .u64)) (.cons (.leaf (.slc 75 (.cons (.int .u64) (.cons (.int .i64) (.cons .str .nil))))) (.cons (.leaf .str) (.cons (.leaf (.int .i64)) (.cons (.leaf (.int .u64)) (.cons (.leaf (.int .u64)) (.cons (.leaf (.slc 22 (.cons (.int .u64) .nil))) (.cons (.leaf (.slc 54 (.cons (.int .u64) (.cons (.int .u64) (.cons (.int .u64) .nil))))) (.cons (.leaf (.int .i64)) .nil))))))))))))))), []⟩]
abbrev A_raft_Restart : Type := ((Int × List Int × Int × Int × Int × Int × (List (Int × Int × ByteArray)) × ByteArray × Int × Int × Int × List Int × (List (Int × Int × Int)) × Int × Unit) × Unit)
abbrev M_raft_Restart : Type := Unit
abbrev O_raft_Restart : Type := (Int × List Int × Int × Int × Int × Int × (List (Int × Int × ByteArray)) × ByteArray × Int × Int × Int × List Int × (List (Int × Int × Int)) × Int × Unit) × Unit
def tree_raft_Restart (F_raft_Copy : A_raft_Copy → M_raft_Copy → Option O_raft_Copy) {α : Type} (x1 : Int) (x2 : List Int) (x3 : Int) (x4 : Int) (x5 : Int) (x6 : Int) (x7 : List (Int × Int × ByteArray)) (x8 : ByteArray) (x9 : Int) (x10 : Int) (x11 : Int) (x12 : List Int) (x13 : List (Int × Int × Int)) (x14 : Int) (K : O_raft_Restart → Option α) : Option α :=
  (F_raft_Copy ((x1, x2, x3, x4, x5, x6, x7, x8, x9, x10, x11, x12, x13, x14, ()), ()) ()).bind fun r1 =>
  K ((r1.fst.fst, (r1.fst.snd.fst, (r1.fst.snd.snd.fst, (r1.fst.snd.snd.snd.fst, (r1.fst.snd.snd.snd.snd.fst, (r1.fst.snd.snd.snd.snd.snd.fst, (r1.fst.snd.snd.snd.snd.snd.snd.fst, (r1.fst.snd.snd.snd.snd.snd.snd.snd.fst, (0, (0, (r1.fst.snd.snd.snd.snd.fst, ([], ([], (0, ())))))))))))))), ())
noncomputable def F_raft_Restart : A_raft_Restart → M_raft_Restart → Option O_raft_Restart := fun a b => tree_raft_Restart F_raft_Copy a.1.1 a.1.2.1 a.1.2.2.1 a.1.2.2.2.1 a.1.2.2.2.2.1 a.1.2.2.2.2.2.1 a.1.2.2.2.2.2.2.1 a.1.2.2.2.2.2.2.2.1 a.1.2.2.2.2.2.2.2.2.1 a.1.2.2.2.2.2.2.2.2.2.1 a.1.2.2.2.2.2.2.2.2.2.2.1 a.1.2.2.2.2.2.2.2.2.2.2.2.1 a.1.2.2.2.2.2.2.2.2.2.2.2.2.1 a.1.2.2.2.2.2.2.2.2.2.2.2.2.2.1 some
theorem n_raft_Restart (F_raft_Copy : A_raft_Copy → M_raft_Copy → Option O_raft_Copy) (x1 : Int) (x2 : List Int) (x3 : Int) (x4 : Int) (x5 : Int) (x6 : Int) (x7 : List (Int × Int × ByteArray)) (x8 : ByteArray) (x9 : Int) (x10 : Int) (x11 : Int) (x12 : List Int) (x13 : List (Int × Int × Int)) (x14 : Int) {α : Type} (K : O_raft_Restart → Option α) : tree_raft_Restart F_raft_Copy x1 x2 x3 x4 x5 x6 x7 x8 x9 x10 x11 x12 x13 x14 K = (tree_raft_Restart F_raft_Copy x1 x2 x3 x4 x5 x6 x7 x8 x9 x10 x11 x12 x13 x14 some).bind K := by simp only [tree_raft_Restart, bind_cond, bind_none', bind_some', bind_bind', bind_sum]
theorem Fe_raft_Restart (x1 : Int) (x2 : List Int) (x3 : Int) (x4 : Int) (x5 : Int) (x6 : Int) (x7 : List (Int × Int × ByteArray)) (x8 : ByteArray) (x9 : Int) (x10 : Int) (x11 : Int) (x12 : List Int) (x13 : List (Int × Int × Int)) (x14 : Int) : F_raft_Restart ((x1, (x2, (x3, (x4, (x5, (x6, (x7, (x8, (x9, (x10, (x11, (x12, (x13, (x14, ())))))))))))))), ()) () = tree_raft_Restart F_raft_Copy x1 x2 x3 x4 x5 x6 x7 x8 x9 x10 x11 x12 x13 x14 some := rfl
end Go.Proofs.YtgakbdikappdbaaGreat.S2
