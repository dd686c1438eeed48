/- Plain forms of the program's functions, by program. -/
import Derived.Test.YtgakbdikappdbaaS2y
set_option maxRecDepth 100000
set_option maxHeartbeats 0
set_option linter.unusedVariables false
set_option linter.unusedSimpArgs false
namespace Go.Proofs.Ytgakbdikappdbaa.S2
open Go
def args_slices_Clone_uint64 : SkL := (.cons (.leaf (.slc 22 (.cons (.int .u64) .nil))) .nil)
def mem_slices_Clone_uint64 : MSk := []
def outs_slices_Clone_uint64 : List OutC := [⟨(.leaf (.slc 22 (.cons (.int .u64) .nil))), []⟩]
abbrev A_slices_Clone_uint64 : Type := (List Int × Unit)
abbrev M_slices_Clone_uint64 : Type := Unit
abbrev O_slices_Clone_uint64 : Type := List Int × Unit
def tree_slices_Clone_uint64 {α : Type} (x1 : List Int) (K : O_slices_Clone_uint64 → Option α) : Option α :=
  cond (decide (0 < x1.length))
  (cond (decide ((0 + x1.length) * 8 ≤ 140737488355328))
   (K ([] ++ x1, ()))
   (none))
  (none)
def F_slices_Clone_uint64 : A_slices_Clone_uint64 → M_slices_Clone_uint64 → Option O_slices_Clone_uint64 := fun a b => cond (decide (a.1.length * 8 ≤ 140737488355328)) (some (a.1, ())) none
def args_slices_Clone_api_Peer : SkL := (.cons (.leaf (.slc 58 (.cons (.int .u64) (.cons (.int .u64) (.cons (.int .u64) .nil))))) .nil)
def mem_slices_Clone_api_Peer : MSk := []
def outs_slices_Clone_api_Peer : List OutC := [⟨(.leaf (.slc 58 (.cons (.int .u64) (.cons (.int .u64) (.cons (.int .u64) .nil))))), []⟩]
abbrev A_slices_Clone_api_Peer : Type := ((List (Int × Int × Int)) × Unit)
abbrev M_slices_Clone_api_Peer : Type := Unit
abbrev O_slices_Clone_api_Peer : Type := (List (Int × Int × Int)) × Unit
def tree_slices_Clone_api_Peer {α : Type} (x1 : List (Int × Int × Int)) (K : O_slices_Clone_api_Peer → Option α) : Option α :=
  cond (decide (0 < x1.length))
  (cond (decide ((0 + x1.length) * 24 ≤ 140737488355328))
   (K ([] ++ x1, ()))
   (none))
  (none)
def F_slices_Clone_api_Peer : A_slices_Clone_api_Peer → M_slices_Clone_api_Peer → Option O_slices_Clone_api_Peer := fun a b => cond (decide (a.1.length * 24 ≤ 140737488355328)) (some (a.1, ())) none
def args_slices_Clone_api_Entry : SkL := (.cons (.leaf (.slc 52 (.cons (.int .u64) (.cons (.int .i64) (.cons .str .nil))))) .nil)
def mem_slices_Clone_api_Entry : MSk := []
def outs_slices_Clone_api_Entry : List OutC := [⟨(.leaf (.slc 52 (.cons (.int .u64) (.cons (.int .i64) (.cons .str .nil))))), []⟩]
abbrev A_slices_Clone_api_Entry : Type := ((List (Int × Int × ByteArray)) × Unit)
abbrev M_slices_Clone_api_Entry : Type := Unit
abbrev O_slices_Clone_api_Entry : Type := (List (Int × Int × ByteArray)) × Unit
def tree_slices_Clone_api_Entry {α : Type} (x1 : List (Int × Int × ByteArray)) (K : O_slices_Clone_api_Entry → Option α) : Option α :=
  cond (decide (0 < x1.length))
  (cond (decide ((0 + x1.length) * 32 ≤ 140737488355328))
   (K ([] ++ x1, ()))
   (none))
  (none)
def F_slices_Clone_api_Entry : A_slices_Clone_api_Entry → M_slices_Clone_api_Entry → Option O_slices_Clone_api_Entry := fun a b => cond (decide (a.1.length * 32 ≤ 140737488355328)) (some (a.1, ())) none
def args_raft_Copy : SkL := (.cons (.agg (.cons (.leaf (.int .u64)) (.cons (.leaf (.slc 22 (.cons (.int .u64) .nil))) (.cons (.leaf (.int .u64)) (.cons (.leaf (.int .u64)) (.cons (.leaf (.int .u64)) (.cons (.leaf (.int .u64)) (.cons (.leaf (.slc 52 (.cons (.int .u64) (.cons (.int .i64) (.cons .str .nil))))) (.cons (.leaf .str) (.cons (.leaf (.int .i64)) (.cons (.leaf (.int .u64)) (.cons (.leaf (.int .u64)) (.cons (.leaf (.slc 22 (.cons (.int .u64) .nil))) (.cons (.leaf (.slc 58 (.cons (.int .u64) (.cons (.int .u64) (.cons (.int .u64) .nil))))) (.cons (.leaf (.int .i64)) .nil))))))))))))))) .nil)
def mem_raft_Copy : MSk := []
def outs_raft_Copy : List OutC := [⟨(.agg (.cons (.leaf (.int .u64)) (.cons (.leaf (.slc 22 (.cons (.int .u64) .nil))) (.cons (.leaf (.int .u64)) (.cons (.leaf (.int .u64)) (.cons (.leaf (.int .u64)) (.cons (.leaf (.int .u64)) (.cons (.leaf (.slc 52 (.cons (.int .u64) (.cons (.int .i64) (.cons .str .nil))))) (.cons (.leaf .str) (.cons (.leaf (.int .i64)) (.cons (.leaf (.int .u64)) (.cons (.leaf (.int .u64)) (.cons (.leaf (.slc 22 (.cons (.int .u64) .nil))) (.cons (.leaf (.slc 58 (.cons (.int .u64) (.cons (.int .u64) (.cons (.int .u64) .nil))))) (.cons (.leaf (.int .i64)) .nil))))))))))))))), []⟩]
abbrev A_raft_Copy : Type := ((Int × List Int × Int × Int × Int × Int × (List (Int × Int × ByteArray)) × ByteArray × Int × Int × Int × List Int × (List (Int × Int × Int)) × Int × Unit) × Unit)
abbrev M_raft_Copy : Type := Unit
abbrev O_raft_Copy : Type := (Int × List Int × Int × Int × Int × Int × (List (Int × Int × ByteArray)) × ByteArray × Int × Int × Int × List Int × (List (Int × Int × Int)) × Int × Unit) × Unit
def tree_raft_Copy (F_slices_Clone_uint64 : A_slices_Clone_uint64 → M_slices_Clone_uint64 → Option O_slices_Clone_uint64) (F_slices_Clone_api_Peer : A_slices_Clone_api_Peer → M_slices_Clone_api_Peer → Option O_slices_Clone_api_Peer) (F_slices_Clone_api_Entry : A_slices_Clone_api_Entry → M_slices_Clone_api_Entry → Option O_slices_Clone_api_Entry) {α : Type} (x1 : Int) (x2 : List Int) (x3 : Int) (x4 : Int) (x5 : Int) (x6 : Int) (x7 : List (Int × Int × ByteArray)) (x8 : ByteArray) (x9 : Int) (x10 : Int) (x11 : Int) (x12 : List Int) (x13 : List (Int × Int × Int)) (x14 : Int) (K : O_raft_Copy → Option α) : Option α :=
  (F_slices_Clone_uint64 (x2, ()) ()).bind fun r1 =>
  (F_slices_Clone_uint64 (x12, ()) ()).bind fun r2 =>
  (F_slices_Clone_api_Peer (x13, ()) ()).bind fun r3 =>
  (F_slices_Clone_api_Entry (x7, ()) ()).bind fun r4 =>
  K ((x1, (r1.fst, (x3, (x4, (x5, (x6, (r4.fst, (x8, (x9, (x10, (x11, (r2.fst, (r3.fst, (x14, ())))))))))))))), ())
noncomputable def F_raft_Copy : A_raft_Copy → M_raft_Copy → Option O_raft_Copy := fun a b => tree_raft_Copy F_slices_Clone_uint64 F_slices_Clone_api_Peer F_slices_Clone_api_Entry a.1.1 a.1.2.1 a.1.2.2.1 a.1.2.2.2.1 a.1.2.2.2.2.1 a.1.2.2.2.2.2.1 a.1.2.2.2.2.2.2.1 a.1.2.2.2.2.2.2.2.1 a.1.2.2.2.2.2.2.2.2.1 a.1.2.2.2.2.2.2.2.2.2.1 a.1.2.2.2.2.2.2.2.2.2.2.1 a.1.2.2.2.2.2.2.2.2.2.2.2.1 a.1.2.2.2.2.2.2.2.2.2.2.2.2.1 a.1.2.2.2.2.2.2.2.2.2.2.2.2.2.1 some
theorem n_raft_Copy (F_slices_Clone_uint64 : A_slices_Clone_uint64 → M_slices_Clone_uint64 → Option O_slices_Clone_uint64) (F_slices_Clone_api_Peer : A_slices_Clone_api_Peer → M_slices_Clone_api_Peer → Option O_slices_Clone_api_Peer) (F_slices_Clone_api_Entry : A_slices_Clone_api_Entry → M_slices_Clone_api_Entry → Option O_slices_Clone_api_Entry) (x1 : Int) (x2 : List Int) (x3 : Int) (x4 : Int) (x5 : Int) (x6 : Int) (x7 : List (Int × Int × ByteArray)) (x8 : ByteArray) (x9 : Int) (x10 : Int) (x11 : Int) (x12 : List Int) (x13 : List (Int × Int × Int)) (x14 : Int) {α : Type} (K : O_raft_Copy → Option α) : tree_raft_Copy F_slices_Clone_uint64 F_slices_Clone_api_Peer F_slices_Clone_api_Entry x1 x2 x3 x4 x5 x6 x7 x8 x9 x10 x11 x12 x13 x14 K = (tree_raft_Copy F_slices_Clone_uint64 F_slices_Clone_api_Peer F_slices_Clone_api_Entry x1 x2 x3 x4 x5 x6 x7 x8 x9 x10 x11 x12 x13 x14 some).bind K := by simp only [tree_raft_Copy, bind_cond, bind_none', bind_some', bind_bind', bind_sum]
theorem Fe_raft_Copy (x1 : Int) (x2 : List Int) (x3 : Int) (x4 : Int) (x5 : Int) (x6 : Int) (x7 : List (Int × Int × ByteArray)) (x8 : ByteArray) (x9 : Int) (x10 : Int) (x11 : Int) (x12 : List Int) (x13 : List (Int × Int × Int)) (x14 : Int) : F_raft_Copy ((x1, (x2, (x3, (x4, (x5, (x6, (x7, (x8, (x9, (x10, (x11, (x12, (x13, (x14, ())))))))))))))), ()) () = tree_raft_Copy F_slices_Clone_uint64 F_slices_Clone_api_Peer F_slices_Clone_api_Entry x1 x2 x3 x4 x5 x6 x7 x8 x9 x10 x11 x12 x13 x14 some := rfl
def args_raft_begun : SkL := (.cons (.agg (.cons (.leaf (.int .u64)) (.cons (.leaf (.slc 22 (.cons (.int .u64) .nil))) (.cons (.leaf (.int .u64)) (.cons (.leaf (.int .u64)) (.cons (.leaf (.int .u64)) (.cons (.leaf (.int .u64)) (.cons (.leaf (.slc 52 (.cons (.int .u64) (.cons (.int .i64) (.cons .str .nil))))) (.cons (.leaf .str) (.cons (.leaf (.int .i64)) (.cons (.leaf (.int .u64)) (.cons (.leaf (.int .u64)) (.cons (.leaf (.slc 22 (.cons (.int .u64) .nil))) (.cons (.leaf (.slc 58 (.cons (.int .u64) (.cons (.int .u64) (.cons (.int .u64) .nil))))) (.cons (.leaf (.int .i64)) .nil))))))))))))))) (.cons (.leaf (.int .i64)) .nil))
def mem_raft_begun : MSk := []
def outs_raft_begun : List OutC := [⟨(.const (.ptr 0 0 0)), [(0, .cells (.cons (.leaf (.int .u64)) (.cons (.leaf (.slc 22 (.cons (.int .u64) .nil))) (.cons (.leaf (.int .u64)) (.cons (.leaf (.int .u64)) (.cons (.leaf (.int .u64)) (.cons (.leaf (.int .u64)) (.cons (.leaf (.slc 52 (.cons (.int .u64) (.cons (.int .i64) (.cons .str .nil))))) (.cons (.leaf .str) (.cons (.leaf (.int .i64)) (.cons (.leaf (.int .u64)) (.cons (.leaf (.int .u64)) (.cons (.leaf (.slc 22 (.cons (.int .u64) .nil))) (.cons (.leaf (.slc 58 (.cons (.int .u64) (.cons (.int .u64) (.cons (.int .u64) .nil))))) (.cons (.leaf (.int .i64)) (.cons (.leaf (.int .i64)) (.cons (.const .nils) .nil)))))))))))))))))]⟩]
abbrev A_raft_begun : Type := ((Int × List Int × Int × Int × Int × Int × (List (Int × Int × ByteArray)) × ByteArray × Int × Int × Int × List Int × (List (Int × Int × Int)) × Int × Unit) × Int × Unit)
abbrev M_raft_begun : Type := Unit
abbrev O_raft_begun : Type := Unit × ((Int × List Int × Int × Int × Int × Int × (List (Int × Int × ByteArray)) × ByteArray × Int × Int × Int × List Int × (List (Int × Int × Int)) × Int × Int × Unit) × Unit)
def tree_raft_begun (F_raft_Copy : A_raft_Copy → M_raft_Copy → Option O_raft_Copy) {α : Type} (x1 : Int) (x2 : List Int) (x3 : Int) (x4 : Int) (x5 : Int) (x6 : Int) (x7 : List (Int × Int × ByteArray)) (x8 : ByteArray) (x9 : Int) (x10 : Int) (x11 : Int) (x12 : List Int) (x13 : List (Int × Int × Int)) (x14 : Int) (x15 : Int) (K : O_raft_begun → Option α) : Option α :=
  (F_raft_Copy ((x1, x2, x3, x4, x5, x6, x7, x8, x9, x10, x11, x12, x13, x14, ()), ()) ()).bind fun r1 =>
  K ((), ((r1.fst.fst, (r1.fst.snd.fst, (r1.fst.snd.snd.fst, (r1.fst.snd.snd.snd.fst, (r1.fst.snd.snd.snd.snd.fst, (r1.fst.snd.snd.snd.snd.snd.fst, (r1.fst.snd.snd.snd.snd.snd.snd.fst, (r1.fst.snd.snd.snd.snd.snd.snd.snd.fst, (r1.fst.snd.snd.snd.snd.snd.snd.snd.snd.fst, (r1.fst.snd.snd.snd.snd.snd.snd.snd.snd.snd.fst, (r1.fst.snd.snd.snd.snd.snd.snd.snd.snd.snd.snd.fst, (r1.fst.snd.snd.snd.snd.snd.snd.snd.snd.snd.snd.snd.fst, (r1.fst.snd.snd.snd.snd.snd.snd.snd.snd.snd.snd.snd.snd.fst, (r1.fst.snd.snd.snd.snd.snd.snd.snd.snd.snd.snd.snd.snd.snd.fst, (if (if 1000 < x15 then 1000 else x15) > 1 then if 1000 < x15 then 1000 else x15 else 1, ()))))))))))))))), ()))
noncomputable def F_raft_begun : A_raft_begun → M_raft_begun → Option O_raft_begun := fun a b => tree_raft_begun F_raft_Copy a.1.1 a.1.2.1 a.1.2.2.1 a.1.2.2.2.1 a.1.2.2.2.2.1 a.1.2.2.2.2.2.1 a.1.2.2.2.2.2.2.1 a.1.2.2.2.2.2.2.2.1 a.1.2.2.2.2.2.2.2.2.1 a.1.2.2.2.2.2.2.2.2.2.1 a.1.2.2.2.2.2.2.2.2.2.2.1 a.1.2.2.2.2.2.2.2.2.2.2.2.1 a.1.2.2.2.2.2.2.2.2.2.2.2.2.1 a.1.2.2.2.2.2.2.2.2.2.2.2.2.2.1 a.2.1 some
theorem n_raft_begun (F_raft_Copy : A_raft_Copy → M_raft_Copy → Option O_raft_Copy) (x1 : Int) (x2 : List Int) (x3 : Int) (x4 : Int) (x5 : Int) (x6 : Int) (x7 : List (Int × Int × ByteArray)) (x8 : ByteArray) (x9 : Int) (x10 : Int) (x11 : Int) (x12 : List Int) (x13 : List (Int × Int × Int)) (x14 : Int) (x15 : Int) {α : Type} (K : O_raft_begun → Option α) : tree_raft_begun F_raft_Copy x1 x2 x3 x4 x5 x6 x7 x8 x9 x10 x11 x12 x13 x14 x15 K = (tree_raft_begun F_raft_Copy x1 x2 x3 x4 x5 x6 x7 x8 x9 x10 x11 x12 x13 x14 x15 some).bind K := by simp only [tree_raft_begun, bind_cond, bind_none', bind_some', bind_bind', bind_sum]
theorem Fe_raft_begun (x1 : Int) (x2 : List Int) (x3 : Int) (x4 : Int) (x5 : Int) (x6 : Int) (x7 : List (Int × Int × ByteArray)) (x8 : ByteArray) (x9 : Int) (x10 : Int) (x11 : Int) (x12 : List Int) (x13 : List (Int × Int × Int)) (x14 : Int) (x15 : Int) : F_raft_begun ((x1, (x2, (x3, (x4, (x5, (x6, (x7, (x8, (x9, (x10, (x11, (x12, (x13, (x14, ())))))))))))))), (x15, ())) () = tree_raft_begun F_raft_Copy x1 x2 x3 x4 x5 x6 x7 x8 x9 x10 x11 x12 x13 x14 x15 some := rfl
def args_raft_Tick : SkL := (.cons (.agg (.cons (.leaf (.int .u64)) (.cons (.leaf (.slc 22 (.cons (.int .u64) .nil))) (.cons (.leaf (.int .u64)) (.cons (.leaf (.int .u64)) (.cons (.leaf (.int .u64)) (.cons (.leaf (.int .u64)) (.cons (.leaf (.slc 52 (.cons (.int .u64) (.cons (.int .i64) (.cons .str .nil))))) (.cons (.leaf .str) (.cons (.leaf (.int .i64)) (.cons (.leaf (.int .u64)) (.cons (.leaf (.int .u64)) (.cons (.leaf (.slc 22 (.cons (.int .u64) .nil))) (.cons (.leaf (.slc 58 (.cons (.int .u64) (.cons (.int .u64) (.cons (.int .u64) .nil))))) (.cons (.leaf (.int .i64)) .nil))))))))))))))) (.cons (.leaf (.int .i64)) .nil))
def mem_raft_Tick : MSk := []
def outs_raft_Tick : List OutC := [⟨(.tup (.cons (.agg (.cons (.leaf (.int .u64)) (.cons (.leaf (.slc 22 (.cons (.int .u64) .nil))) (.cons (.leaf (.int .u64)) (.cons (.leaf (.int .u64)) (.cons (.leaf (.int .u64)) (.cons (.leaf (.int .u64)) (.cons (.leaf (.slc 52 (.cons (.int .u64) (.cons (.int .i64) (.cons .str .nil))))) (.cons (.leaf .str) (.cons (.leaf (.int .i64)) (.cons (.leaf (.int .u64)) (.cons (.leaf (.int .u64)) (.cons (.leaf (.slc 22 (.cons (.int .u64) .nil))) (.cons (.leaf (.slc 58 (.cons (.int .u64) (.cons (.int .u64) (.cons (.int .u64) .nil))))) (.cons (.leaf (.int .i64)) .nil))))))))))))))) (.cons (.leaf (.slc 48 (.cons (.int .u64) (.cons (.int .i64) (.cons (.slc 22 (.cons (.int .u64) .nil)) (.cons (.slc 9 (.cons .str .nil)) .nil)))))) .nil))), []⟩]
abbrev A_raft_Tick : Type := ((Int × List Int × Int × Int × Int × Int × (List (Int × Int × ByteArray)) × ByteArray × Int × Int × Int × List Int × (List (Int × Int × Int)) × Int × Unit) × Int × Unit)
abbrev M_raft_Tick : Type := Unit
abbrev O_raft_Tick : Type := ((Int × List Int × Int × Int × Int × Int × (List (Int × Int × ByteArray)) × ByteArray × Int × Int × Int × List Int × (List (Int × Int × Int)) × Int × Unit) × (List (Int × Int × List Int × List ByteArray)) × Unit) × Unit
def tree_raft_Tick (F_raft_begun : A_raft_begun → M_raft_begun → Option O_raft_begun) {α : Type} (x1 : Int) (x2 : List Int) (x3 : Int) (x4 : Int) (x5 : Int) (x6 : Int) (x7 : List (Int × Int × ByteArray)) (x8 : ByteArray) (x9 : Int) (x10 : Int) (x11 : Int) (x12 : List Int) (x13 : List (Int × Int × Int)) (x14 : Int) (x15 : Int) (K : O_raft_Tick → Option α) : Option α :=
  (F_raft_begun ((x1, x2, x3, x4, x5, x6, x7, x8, x9, x10, x11, x12, x13, x14, ()), x15, ()) ()).bind fun r1 =>
  cond (decide (r1.snd.fst.snd.snd.snd.snd.snd.snd.snd.snd.snd.snd.snd.snd.snd.fst > 1))
  (K (((r1.snd.fst.fst, (r1.snd.fst.snd.fst, (r1.snd.fst.snd.snd.fst, (r1.snd.fst.snd.snd.snd.fst, (r1.snd.fst.snd.snd.snd.snd.fst, (r1.snd.fst.snd.snd.snd.snd.snd.fst, (r1.snd.fst.snd.snd.snd.snd.snd.snd.fst, (r1.snd.fst.snd.snd.snd.snd.snd.snd.snd.fst, (r1.snd.fst.snd.snd.snd.snd.snd.snd.snd.snd.fst, (r1.snd.fst.snd.snd.snd.snd.snd.snd.snd.snd.snd.fst, (r1.snd.fst.snd.snd.snd.snd.snd.snd.snd.snd.snd.snd.fst, (r1.snd.fst.snd.snd.snd.snd.snd.snd.snd.snd.snd.snd.snd.fst, (r1.snd.fst.snd.snd.snd.snd.snd.snd.snd.snd.snd.snd.snd.snd.fst, (IntKind.i64.wrap (r1.snd.fst.snd.snd.snd.snd.snd.snd.snd.snd.snd.snd.snd.snd.snd.fst - 1), ())))))))))))))), ([], ())), ()))
  (cond (r1.snd.fst.snd.snd.snd.snd.snd.snd.snd.snd.fst == 2)
   (none)
   (none))
noncomputable def F_raft_Tick : A_raft_Tick → M_raft_Tick → Option O_raft_Tick := fun a b => tree_raft_Tick F_raft_begun a.1.1 a.1.2.1 a.1.2.2.1 a.1.2.2.2.1 a.1.2.2.2.2.1 a.1.2.2.2.2.2.1 a.1.2.2.2.2.2.2.1 a.1.2.2.2.2.2.2.2.1 a.1.2.2.2.2.2.2.2.2.1 a.1.2.2.2.2.2.2.2.2.2.1 a.1.2.2.2.2.2.2.2.2.2.2.1 a.1.2.2.2.2.2.2.2.2.2.2.2.1 a.1.2.2.2.2.2.2.2.2.2.2.2.2.1 a.1.2.2.2.2.2.2.2.2.2.2.2.2.2.1 a.2.1 some
theorem n_raft_Tick (F_raft_begun : A_raft_begun → M_raft_begun → Option O_raft_begun) (x1 : Int) (x2 : List Int) (x3 : Int) (x4 : Int) (x5 : Int) (x6 : Int) (x7 : List (Int × Int × ByteArray)) (x8 : ByteArray) (x9 : Int) (x10 : Int) (x11 : Int) (x12 : List Int) (x13 : List (Int × Int × Int)) (x14 : Int) (x15 : Int) {α : Type} (K : O_raft_Tick → Option α) : tree_raft_Tick F_raft_begun x1 x2 x3 x4 x5 x6 x7 x8 x9 x10 x11 x12 x13 x14 x15 K = (tree_raft_Tick F_raft_begun x1 x2 x3 x4 x5 x6 x7 x8 x9 x10 x11 x12 x13 x14 x15 some).bind K := by simp only [tree_raft_Tick, bind_cond, bind_none', bind_some', bind_bind', bind_sum]
theorem Fe_raft_Tick (x1 : Int) (x2 : List Int) (x3 : Int) (x4 : Int) (x5 : Int) (x6 : Int) (x7 : List (Int × Int × ByteArray)) (x8 : ByteArray) (x9 : Int) (x10 : Int) (x11 : Int) (x12 : List Int) (x13 : List (Int × Int × Int)) (x14 : Int) (x15 : Int) : F_raft_Tick ((x1, (x2, (x3, (x4, (x5, (x6, (x7, (x8, (x9, (x10, (x11, (x12, (x13, (x14, ())))))))))))))), (x15, ())) () = tree_raft_Tick F_raft_begun x1 x2 x3 x4 x5 x6 x7 x8 x9 x10 x11 x12 x13 x14 x15 some := rfl
def args_ref18_Copy : SkL := (.cons (.agg (.cons (.leaf (.int .u64)) (.cons (.leaf (.slc 22 (.cons (.int .u64) .nil))) (.cons (.leaf (.int .u64)) (.cons (.leaf (.int .u64)) (.cons (.leaf (.int .u64)) (.cons (.leaf (.int .u64)) (.cons (.leaf (.slc 52 (.cons (.int .u64) (.cons (.int .i64) (.cons .str .nil))))) (.cons (.leaf .str) (.cons (.leaf (.int .i64)) (.cons (.leaf (.int .u64)) (.cons (.leaf (.int .u64)) (.cons (.leaf (.slc 22 (.cons (.int .u64) .nil))) (.cons (.leaf (.slc 58 (.cons (.int .u64) (.cons (.int .u64) (.cons (.int .u64) .nil))))) (.cons (.leaf (.int .i64)) .nil))))))))))))))) .nil)
def mem_ref18_Copy : MSk := []
def outs_ref18_Copy : List OutC := [⟨(.agg (.cons (.leaf (.int .u64)) (.cons (.leaf (.slc 22 (.cons (.int .u64) .nil))) (.cons (.leaf (.int .u64)) (.cons (.leaf (.int .u64)) (.cons (.leaf (.int .u64)) (.cons (.leaf (.int .u64)) (.cons (.leaf (.slc 52 (.cons (.int .u64) (.cons (.int .i64) (.cons .str .nil))))) (.cons (.leaf .str) (.cons (.leaf (.int .i64)) (.cons (.leaf (.int .u64)) (.cons (.leaf (.int .u64)) (.cons (.leaf (.slc 22 (.cons (.int .u64) .nil))) (.cons (.leaf (.slc 58 (.cons (.int .u64) (.cons (.int .u64) (.cons (.int .u64) .nil))))) (.cons (.leaf (.int .i64)) .nil))))))))))))))), []⟩]
abbrev A_ref18_Copy : Type := ((Int × List Int × Int × Int × Int × Int × (List (Int × Int × ByteArray)) × ByteArray × Int × Int × Int × List Int × (List (Int × Int × Int)) × Int × Unit) × Unit)
abbrev M_ref18_Copy : Type := Unit
abbrev O_ref18_Copy : Type := (Int × List Int × Int × Int × Int × Int × (List (Int × Int × ByteArray)) × ByteArray × Int × Int × Int × List Int × (List (Int × Int × Int)) × Int × Unit) × Unit
def tree_ref18_Copy {α : Type} (x1 : Int) (x2 : List Int) (x3 : Int) (x4 : Int) (x5 : Int) (x6 : Int) (x7 : List (Int × Int × ByteArray)) (x8 : ByteArray) (x9 : Int) (x10 : Int) (x11 : Int) (x12 : List Int) (x13 : List (Int × Int × Int)) (x14 : Int) (K : O_ref18_Copy → Option α) : Option α :=
  cond (decide ((0 + x2.length) * 8 ≤ 140737488355328))
  (cond (decide ((0 + x12.length) * 8 ≤ 140737488355328))
   (cond (decide ((0 + x13.length) * 24 ≤ 140737488355328))
    (cond (decide ((0 + x7.length) * 32 ≤ 140737488355328))
     (K ((x1, ([] ++ x2, (x3, (x4, (x5, (x6, ([] ++ x7, (x8, (x9, (x10, (x11, ([] ++ x12, ([] ++ x13, (x14, ())))))))))))))), ()))
     (none))
    (none))
   (none))
  (none)
noncomputable def F_ref18_Copy : A_ref18_Copy → M_ref18_Copy → Option O_ref18_Copy := fun a b => tree_ref18_Copy a.1.1 a.1.2.1 a.1.2.2.1 a.1.2.2.2.1 a.1.2.2.2.2.1 a.1.2.2.2.2.2.1 a.1.2.2.2.2.2.2.1 a.1.2.2.2.2.2.2.2.1 a.1.2.2.2.2.2.2.2.2.1 a.1.2.2.2.2.2.2.2.2.2.1 a.1.2.2.2.2.2.2.2.2.2.2.1 a.1.2.2.2.2.2.2.2.2.2.2.2.1 a.1.2.2.2.2.2.2.2.2.2.2.2.2.1 a.1.2.2.2.2.2.2.2.2.2.2.2.2.2.1 some
theorem n_ref18_Copy (x1 : Int) (x2 : List Int) (x3 : Int) (x4 : Int) (x5 : Int) (x6 : Int) (x7 : List (Int × Int × ByteArray)) (x8 : ByteArray) (x9 : Int) (x10 : Int) (x11 : Int) (x12 : List Int) (x13 : List (Int × Int × Int)) (x14 : Int) {α : Type} (K : O_ref18_Copy → Option α) : tree_ref18_Copy x1 x2 x3 x4 x5 x6 x7 x8 x9 x10 x11 x12 x13 x14 K = (tree_ref18_Copy x1 x2 x3 x4 x5 x6 x7 x8 x9 x10 x11 x12 x13 x14 some).bind K := by simp only [tree_ref18_Copy, bind_cond, bind_none', bind_some', bind_bind', bind_sum]
theorem Fe_ref18_Copy (x1 : Int) (x2 : List Int) (x3 : Int) (x4 : Int) (x5 : Int) (x6 : Int) (x7 : List (Int × Int × ByteArray)) (x8 : ByteArray) (x9 : Int) (x10 : Int) (x11 : Int) (x12 : List Int) (x13 : List (Int × Int × Int)) (x14 : Int) : F_ref18_Copy ((x1, (x2, (x3, (x4, (x5, (x6, (x7, (x8, (x9, (x10, (x11, (x12, (x13, (x14, ())))))))))))))), ()) () = tree_ref18_Copy x1 x2 x3 x4 x5 x6 x7 x8 x9 x10 x11 x12 x13 x14 some := rfl
end Go.Proofs.Ytgakbdikappdbaa.S2
