/- Plain forms of the program's functions, by program. -/
import Derived.Test.YtgakbdikappdbaaGwire
import Derived.Test.YtgakbdikappdbaaGrwire
import Derived.Test.YtgakbdikappdbaaGcopy
set_option maxRecDepth 100000
set_option maxHeartbeats 0
set_option linter.unusedVariables false
set_option linter.unusedSimpArgs false
namespace Go.Proofs.Ytgakbdikappdbaa.S2
open Go
def args_raft_named : SkL := (.cons (.leaf .str) .nil)
def mem_raft_named : MSk := []
def outs_raft_named : List OutC := [⟨(.tup (.cons (.leaf (.slc 22 (.cons (.int .u64) .nil))) (.cons (.leaf .bool) .nil))), []⟩]
abbrev A_raft_named : Type := (ByteArray × Unit)
abbrev M_raft_named : Type := Unit
abbrev O_raft_named : Type := (List Int × Bool × Unit) × Unit
def tree_raft_named (F_wire_TakeNums : A_wire_TakeNums → M_wire_TakeNums → Option O_wire_TakeNums) {α : Type} (x1 : ByteArray) (K : O_raft_named → Option α) : Option α :=
  (F_wire_TakeNums (x1, 7, ()) ()).bind fun r1 =>
  cond (r1.fst.snd.snd.fst)
  (K ((r1.fst.fst, (r1.fst.snd.fst.toList == ByteArray.empty.toList, ())), ()))
  (K ((r1.fst.fst, (false, ())), ()))
noncomputable def F_raft_named : A_raft_named → M_raft_named → Option O_raft_named := fun a b => tree_raft_named F_wire_TakeNums a.1 some
theorem n_raft_named (F_wire_TakeNums : A_wire_TakeNums → M_wire_TakeNums → Option O_wire_TakeNums) (x1 : ByteArray) {α : Type} (K : O_raft_named → Option α) : tree_raft_named F_wire_TakeNums x1 K = (tree_raft_named F_wire_TakeNums x1 some).bind K := by simp only [tree_raft_named, bind_cond, bind_none', bind_some', bind_bind', bind_sum]
theorem Fe_raft_named (x1 : ByteArray) : F_raft_named (x1, ()) () = tree_raft_named F_wire_TakeNums x1 some := rfl
def args_raft_Members : SkL := (.cons (.agg (.cons (.leaf (.int .u64)) (.cons (.leaf (.slc 22 (.cons (.int .u64) .nil))) (.cons (.leaf (.int .u64)) (.cons (.leaf (.int .u64)) (.cons (.leaf (.int .u64)) (.cons (.leaf (.int .u64)) (.cons (.leaf (.slc 52 (.cons (.int .u64) (.cons (.int .i64) (.cons .str .nil))))) (.cons (.leaf .str) (.cons (.leaf (.int .i64)) (.cons (.leaf (.int .u64)) (.cons (.leaf (.int .u64)) (.cons (.leaf (.slc 22 (.cons (.int .u64) .nil))) (.cons (.leaf (.slc 58 (.cons (.int .u64) (.cons (.int .u64) (.cons (.int .u64) .nil))))) (.cons (.leaf (.int .i64)) .nil))))))))))))))) (.cons (.leaf (.int .u64)) .nil))
def mem_raft_Members : MSk := []
def outs_raft_Members : List OutC := [⟨(.leaf (.slc 22 (.cons (.int .u64) .nil))), []⟩]
abbrev A_raft_Members : Type := ((Int × List Int × Int × Int × Int × Int × (List (Int × Int × ByteArray)) × ByteArray × Int × Int × Int × List Int × (List (Int × Int × Int)) × Int × Unit) × Int × Unit)
abbrev M_raft_Members : Type := Unit
abbrev O_raft_Members : Type := List Int × Unit
def ltmps_raft_Members_2 : SkL := (.cons (.const .dead) (.cons (.leaf (.int .u64)) (.cons (.const (.ptr 1064 0 0)) (dz 2 (.cons (.leaf (.int .i64)) (dz 43 .nil))))))
def lmem_raft_Members_2 : MSk := [(1064, .cells (.cons (.leaf (.int .u64)) (.cons (.leaf (.slc 22 (.cons (.int .u64) .nil))) (.cons (.leaf (.int .u64)) (.cons (.leaf (.int .u64)) (.cons (.leaf (.int .u64)) (.cons (.leaf (.int .u64)) (.cons (.leaf (.slc 52 (.cons (.int .u64) (.cons (.int .i64) (.cons .str .nil))))) (.cons (.leaf .str) (.cons (.leaf (.int .i64)) (.cons (.leaf (.int .u64)) (.cons (.leaf (.int .u64)) (.cons (.leaf (.slc 22 (.cons (.int .u64) .nil))) (.cons (.leaf (.slc 58 (.cons (.int .u64) (.cons (.int .u64) (.cons (.int .u64) .nil))))) (.cons (.leaf (.int .i64)) .nil)))))))))))))))]
def louts_raft_Members_2 : List OutL := [⟨.ret, (dz 2 (.cons (.const (.ptr 1064 0 0)) (.cons (.const .dead) (.cons (.leaf (.slc 22 (.cons (.int .u64) .nil))) (dz 44 .nil))))), [(1064, .cells (.cons (.leaf (.int .u64)) (.cons (.leaf (.slc 22 (.cons (.int .u64) .nil))) (.cons (.leaf (.int .u64)) (.cons (.leaf (.int .u64)) (.cons (.leaf (.int .u64)) (.cons (.leaf (.int .u64)) (.cons (.leaf (.slc 52 (.cons (.int .u64) (.cons (.int .i64) (.cons .str .nil))))) (.cons (.leaf .str) (.cons (.leaf (.int .i64)) (.cons (.leaf (.int .u64)) (.cons (.leaf (.int .u64)) (.cons (.leaf (.slc 22 (.cons (.int .u64) .nil))) (.cons (.leaf (.slc 58 (.cons (.int .u64) (.cons (.int .u64) (.cons (.int .u64) .nil))))) (.cons (.leaf (.int .i64)) .nil)))))))))))))))]⟩, ⟨(.exit 0), (dz 2 (.cons (.const (.ptr 1064 0 0)) (dz 46 .nil))), [(1064, .cells (.cons (.leaf (.int .u64)) (.cons (.leaf (.slc 22 (.cons (.int .u64) .nil))) (.cons (.leaf (.int .u64)) (.cons (.leaf (.int .u64)) (.cons (.leaf (.int .u64)) (.cons (.leaf (.int .u64)) (.cons (.leaf (.slc 52 (.cons (.int .u64) (.cons (.int .i64) (.cons .str .nil))))) (.cons (.leaf .str) (.cons (.leaf (.int .i64)) (.cons (.leaf (.int .u64)) (.cons (.leaf (.int .u64)) (.cons (.leaf (.slc 22 (.cons (.int .u64) .nil))) (.cons (.leaf (.slc 58 (.cons (.int .u64) (.cons (.int .u64) (.cons (.int .u64) .nil))))) (.cons (.leaf (.int .i64)) .nil)))))))))))))))]⟩]
abbrev LT_raft_Members_2 : Type := (Int × Int × Unit)
abbrev LM_raft_Members_2 : Type := ((Int × List Int × Int × Int × Int × Int × (List (Int × Int × ByteArray)) × ByteArray × Int × Int × Int × List Int × (List (Int × Int × Int)) × Int × Unit) × Unit)
abbrev LO_raft_Members_2 : Type := ((List Int × Unit) × ((Int × List Int × Int × Int × Int × Int × (List (Int × Int × ByteArray)) × ByteArray × Int × Int × Int × List Int × (List (Int × Int × Int)) × Int × Unit) × Unit)) ⊕ (Unit × ((Int × List Int × Int × Int × Int × Int × (List (Int × Int × ByteArray)) × ByteArray × Int × Int × Int × List Int × (List (Int × Int × Int)) × Int × Unit) × Unit))
def ltree_raft_Members_2 (F_raft_named : A_raft_named → M_raft_named → Option O_raft_named) {α : Type} (x1 : Int) (x2 : Int) (x3 : Int) (x4 : List Int) (x5 : Int) (x6 : Int) (x7 : Int) (x8 : Int) (x9 : List (Int × Int × ByteArray)) (x10 : ByteArray) (x11 : Int) (x12 : Int) (x13 : Int) (x14 : List Int) (x15 : List (Int × Int × Int)) (x16 : Int) (kn : LT_raft_Members_2 → LM_raft_Members_2 → Option α) (kr : LO_raft_Members_2 → Option α) : Option α :=
  cond (decide (x2 ≥ 0))
  (cond (decide (0 ≤ x2))
   (cond (decide (x2 < (↑x9.length : Int)))
    (cond ((x9.getD x2.toNat (0, 0, ByteArray.empty)).snd.fst != 1)
     (kn (x1, (IntKind.i64.wrap (x2 - 1), ())) ((x3, (x4, (x5, (x6, (x7, (x8, (x9, (x10, (x11, (x12, (x13, (x14, (x15, (x16, ())))))))))))))), ()))
     (cond (decide (IntKind.u64.wrap (IntKind.u64.wrap (x7 + IntKind.u64.wrap x2) + 1) > x1))
      (kn (x1, (IntKind.i64.wrap (x2 - 1), ())) ((x3, (x4, (x5, (x6, (x7, (x8, (x9, (x10, (x11, (x12, (x13, (x14, (x15, (x16, ())))))))))))))), ()))
      ((F_raft_named ((x9.getD x2.toNat (0, 0, ByteArray.empty)).snd.snd, ()) ()).bind fun r1 =>
       cond (r1.fst.snd.fst)
       (kr (.inl ((r1.fst.fst, ()), ((x3, (x4, (x5, (x6, (x7, (x8, (x9, (x10, (x11, (x12, (x13, (x14, (x15, (x16, ())))))))))))))), ()))))
       (kr (.inr ((), ((x3, (x4, (x5, (x6, (x7, (x8, (x9, (x10, (x11, (x12, (x13, (x14, (x15, (x16, ())))))))))))))), ())))))))
    (none))
   (none))
  (kr (.inr ((), ((x3, (x4, (x5, (x6, (x7, (x8, (x9, (x10, (x11, (x12, (x13, (x14, (x15, (x16, ())))))))))))))), ()))))
noncomputable def L_raft_Members_2 : LT_raft_Members_2 → LM_raft_Members_2 → Option LO_raft_Members_2 := fun x y => runL (fun p => (fun (a : LT_raft_Members_2) (b : LM_raft_Members_2) => ltree_raft_Members_2 F_raft_named a.1 a.2.1 b.1.1 b.1.2.1 b.1.2.2.1 b.1.2.2.2.1 b.1.2.2.2.2.1 b.1.2.2.2.2.2.1 b.1.2.2.2.2.2.2.1 b.1.2.2.2.2.2.2.2.1 b.1.2.2.2.2.2.2.2.2.1 b.1.2.2.2.2.2.2.2.2.2.1 b.1.2.2.2.2.2.2.2.2.2.2.1 b.1.2.2.2.2.2.2.2.2.2.2.2.1 b.1.2.2.2.2.2.2.2.2.2.2.2.2.1 b.1.2.2.2.2.2.2.2.2.2.2.2.2.2.1 (fun a' b' => some (.inl (a', b'))) fun r => some (.inr r)) p.1 p.2) (x, y)
theorem nl_raft_Members_2 (F_raft_named : A_raft_named → M_raft_named → Option O_raft_named) (x1 : Int) (x2 : Int) (x3 : Int) (x4 : List Int) (x5 : Int) (x6 : Int) (x7 : Int) (x8 : Int) (x9 : List (Int × Int × ByteArray)) (x10 : ByteArray) (x11 : Int) (x12 : Int) (x13 : Int) (x14 : List Int) (x15 : List (Int × Int × Int)) (x16 : Int) {α : Type} (kn : LT_raft_Members_2 → LM_raft_Members_2 → Option α) (kr : LO_raft_Members_2 → Option α) : ltree_raft_Members_2 F_raft_named x1 x2 x3 x4 x5 x6 x7 x8 x9 x10 x11 x12 x13 x14 x15 x16 kn kr = (ltree_raft_Members_2 F_raft_named x1 x2 x3 x4 x5 x6 x7 x8 x9 x10 x11 x12 x13 x14 x15 x16 (fun a b => some (.inl (a, b))) fun r => some (.inr r)).bind (Sum.elim (fun p : LT_raft_Members_2 × LM_raft_Members_2 => kn p.1 p.2) kr) := by simp only [ltree_raft_Members_2, bind_cond, bind_none', bind_some', bind_bind', bind_sum, Sum.elim_inl, Sum.elim_inr]
theorem Le_raft_Members_2 (x1 : Int) (x2 : Int) (x3 : Int) (x4 : List Int) (x5 : Int) (x6 : Int) (x7 : Int) (x8 : Int) (x9 : List (Int × Int × ByteArray)) (x10 : ByteArray) (x11 : Int) (x12 : Int) (x13 : Int) (x14 : List Int) (x15 : List (Int × Int × Int)) (x16 : Int) : L_raft_Members_2 (x1, (x2, ())) ((x3, (x4, (x5, (x6, (x7, (x8, (x9, (x10, (x11, (x12, (x13, (x14, (x15, (x16, ())))))))))))))), ()) = ltree_raft_Members_2 F_raft_named x1 x2 x3 x4 x5 x6 x7 x8 x9 x10 x11 x12 x13 x14 x15 x16 L_raft_Members_2 some := runL_tree (A := LT_raft_Members_2) (B := LM_raft_Members_2) (R := LO_raft_Members_2) (fun a b kn kr => ltree_raft_Members_2 F_raft_named a.1 a.2.1 b.1.1 b.1.2.1 b.1.2.2.1 b.1.2.2.2.1 b.1.2.2.2.2.1 b.1.2.2.2.2.2.1 b.1.2.2.2.2.2.2.1 b.1.2.2.2.2.2.2.2.1 b.1.2.2.2.2.2.2.2.2.1 b.1.2.2.2.2.2.2.2.2.2.1 b.1.2.2.2.2.2.2.2.2.2.2.1 b.1.2.2.2.2.2.2.2.2.2.2.2.1 b.1.2.2.2.2.2.2.2.2.2.2.2.2.1 b.1.2.2.2.2.2.2.2.2.2.2.2.2.2.1 kn kr) (fun a b kn kr => nl_raft_Members_2 F_raft_named a.1 a.2.1 b.1.1 b.1.2.1 b.1.2.2.1 b.1.2.2.2.1 b.1.2.2.2.2.1 b.1.2.2.2.2.2.1 b.1.2.2.2.2.2.2.1 b.1.2.2.2.2.2.2.2.1 b.1.2.2.2.2.2.2.2.2.1 b.1.2.2.2.2.2.2.2.2.2.1 b.1.2.2.2.2.2.2.2.2.2.2.1 b.1.2.2.2.2.2.2.2.2.2.2.2.1 b.1.2.2.2.2.2.2.2.2.2.2.2.2.1 b.1.2.2.2.2.2.2.2.2.2.2.2.2.2.1 kn kr) (x1, (x2, ())) ((x3, (x4, (x5, (x6, (x7, (x8, (x9, (x10, (x11, (x12, (x13, (x14, (x15, (x16, ())))))))))))))), ())
def tree_raft_Members (F_slices_Clone_uint64 : A_slices_Clone_uint64 → M_slices_Clone_uint64 → Option O_slices_Clone_uint64) (L_raft_Members_2 : LT_raft_Members_2 → LM_raft_Members_2 → Option LO_raft_Members_2) {α : Type} (x1 : Int) (x2 : List Int) (x3 : Int) (x4 : Int) (x5 : Int) (x6 : Int) (x7 : List (Int × Int × ByteArray)) (x8 : ByteArray) (x9 : Int) (x10 : Int) (x11 : Int) (x12 : List Int) (x13 : List (Int × Int × Int)) (x14 : Int) (x15 : Int) (K : O_raft_Members → Option α) : Option α :=
  (L_raft_Members_2 (x15, IntKind.i64.wrap ((↑x7.length : Int) - 1), ())   ((x1, x2, x3, x4, x5, x6, x7, x8, x9, x10, x11, x12, x13, x14, ()), ())).bind fun r1 =>
  Sum.elim (fun u2 =>
   K (u2.fst.fst, ()))
  (fun u2 =>
   (F_slices_Clone_uint64 (u2.snd.fst.snd.fst, ()) ()).bind fun r3 =>
   K (r3.fst, ())) (r1)
noncomputable def F_raft_Members : A_raft_Members → M_raft_Members → Option O_raft_Members := fun a b => tree_raft_Members F_slices_Clone_uint64 L_raft_Members_2 a.1.1 a.1.2.1 a.1.2.2.1 a.1.2.2.2.1 a.1.2.2.2.2.1 a.1.2.2.2.2.2.1 a.1.2.2.2.2.2.2.1 a.1.2.2.2.2.2.2.2.1 a.1.2.2.2.2.2.2.2.2.1 a.1.2.2.2.2.2.2.2.2.2.1 a.1.2.2.2.2.2.2.2.2.2.2.1 a.1.2.2.2.2.2.2.2.2.2.2.2.1 a.1.2.2.2.2.2.2.2.2.2.2.2.2.1 a.1.2.2.2.2.2.2.2.2.2.2.2.2.2.1 a.2.1 some
theorem n_raft_Members (F_slices_Clone_uint64 : A_slices_Clone_uint64 → M_slices_Clone_uint64 → Option O_slices_Clone_uint64) (L_raft_Members_2 : LT_raft_Members_2 → LM_raft_Members_2 → Option LO_raft_Members_2) (x1 : Int) (x2 : List Int) (x3 : Int) (x4 : Int) (x5 : Int) (x6 : Int) (x7 : List (Int × Int × ByteArray)) (x8 : ByteArray) (x9 : Int) (x10 : Int) (x11 : Int) (x12 : List Int) (x13 : List (Int × Int × Int)) (x14 : Int) (x15 : Int) {α : Type} (K : O_raft_Members → Option α) : tree_raft_Members F_slices_Clone_uint64 L_raft_Members_2 x1 x2 x3 x4 x5 x6 x7 x8 x9 x10 x11 x12 x13 x14 x15 K = (tree_raft_Members F_slices_Clone_uint64 L_raft_Members_2 x1 x2 x3 x4 x5 x6 x7 x8 x9 x10 x11 x12 x13 x14 x15 some).bind K := by simp only [tree_raft_Members, bind_cond, bind_none', bind_some', bind_bind', bind_sum]
theorem Fe_raft_Members (x1 : Int) (x2 : List Int) (x3 : Int) (x4 : Int) (x5 : Int) (x6 : Int) (x7 : List (Int × Int × ByteArray)) (x8 : ByteArray) (x9 : Int) (x10 : Int) (x11 : Int) (x12 : List Int) (x13 : List (Int × Int × Int)) (x14 : Int) (x15 : Int) : F_raft_Members ((x1, (x2, (x3, (x4, (x5, (x6, (x7, (x8, (x9, (x10, (x11, (x12, (x13, (x14, ())))))))))))))), (x15, ())) () = tree_raft_Members F_slices_Clone_uint64 L_raft_Members_2 x1 x2 x3 x4 x5 x6 x7 x8 x9 x10 x11 x12 x13 x14 x15 some := rfl
def args_ref18_Named : SkL := (.cons (.leaf .str) .nil)
def mem_ref18_Named : MSk := []
def outs_ref18_Named : List OutC := [⟨(.tup (.cons (.leaf (.slc 22 (.cons (.int .u64) .nil))) (.cons (.leaf .bool) .nil))), []⟩]
abbrev A_ref18_Named : Type := (ByteArray × Unit)
abbrev M_ref18_Named : Type := Unit
abbrev O_ref18_Named : Type := (List Int × Bool × Unit) × Unit
def tree_ref18_Named (F_ref01_TakeNums : A_ref01_TakeNums → M_ref01_TakeNums → Option O_ref01_TakeNums) {α : Type} (x1 : ByteArray) (K : O_ref18_Named → Option α) : Option α :=
  (F_ref01_TakeNums (x1, 7, ()) ()).bind fun r1 =>
  cond (!r1.fst.snd.snd.fst)
  (K (([], (false, ())), ()))
  (cond (!r1.fst.snd.fst.toList == ByteArray.empty.toList)
   (K (([], (false, ())), ()))
   (K ((r1.fst.fst, (true, ())), ())))
noncomputable def F_ref18_Named : A_ref18_Named → M_ref18_Named → Option O_ref18_Named := fun a b => tree_ref18_Named F_ref01_TakeNums a.1 some
theorem n_ref18_Named (F_ref01_TakeNums : A_ref01_TakeNums → M_ref01_TakeNums → Option O_ref01_TakeNums) (x1 : ByteArray) {α : Type} (K : O_ref18_Named → Option α) : tree_ref18_Named F_ref01_TakeNums x1 K = (tree_ref18_Named F_ref01_TakeNums x1 some).bind K := by simp only [tree_ref18_Named, bind_cond, bind_none', bind_some', bind_bind', bind_sum]
theorem Fe_ref18_Named (x1 : ByteArray) : F_ref18_Named (x1, ()) () = tree_ref18_Named F_ref01_TakeNums x1 some := rfl
def args_ref18_Members : SkL := (.cons (.agg (.cons (.leaf (.int .u64)) (.cons (.leaf (.slc 22 (.cons (.int .u64) .nil))) (.cons (.leaf (.int .u64)) (.cons (.leaf (.int .u64)) (.cons (.leaf (.int .u64)) (.cons (.leaf (.int .u64)) (.cons (.leaf (.slc 52 (.cons (.int .u64) (.cons (.int .i64) (.cons .str .nil))))) (.cons (.leaf .str) (.cons (.leaf (.int .i64)) (.cons (.leaf (.int .u64)) (.cons (.leaf (.int .u64)) (.cons (.leaf (.slc 22 (.cons (.int .u64) .nil))) (.cons (.leaf (.slc 58 (.cons (.int .u64) (.cons (.int .u64) (.cons (.int .u64) .nil))))) (.cons (.leaf (.int .i64)) .nil))))))))))))))) (.cons (.leaf (.int .u64)) .nil))
def mem_ref18_Members : MSk := []
def outs_ref18_Members : List OutC := [⟨(.leaf (.slc 22 (.cons (.int .u64) .nil))), []⟩]
abbrev A_ref18_Members : Type := ((Int × List Int × Int × Int × Int × Int × (List (Int × Int × ByteArray)) × ByteArray × Int × Int × Int × List Int × (List (Int × Int × Int)) × Int × Unit) × Int × Unit)
abbrev M_ref18_Members : Type := Unit
abbrev O_ref18_Members : Type := List Int × Unit
def ltmps_ref18_Members_4 : SkL := (.cons (.const .dead) (.cons (.leaf (.int .u64)) (.cons (.const (.ptr 1064 0 0)) (dz 2 (.cons (.leaf .bool) (.cons (.leaf .str) (.cons (.leaf (.int .i64)) (dz 52 .nil))))))))
def lmem_ref18_Members_4 : MSk := [(1064, .cells (.cons (.leaf (.int .u64)) (.cons (.leaf (.slc 22 (.cons (.int .u64) .nil))) (.cons (.leaf (.int .u64)) (.cons (.leaf (.int .u64)) (.cons (.leaf (.int .u64)) (.cons (.leaf (.int .u64)) (.cons (.leaf (.slc 52 (.cons (.int .u64) (.cons (.int .i64) (.cons .str .nil))))) (.cons (.leaf .str) (.cons (.leaf (.int .i64)) (.cons (.leaf (.int .u64)) (.cons (.leaf (.int .u64)) (.cons (.leaf (.slc 22 (.cons (.int .u64) .nil))) (.cons (.leaf (.slc 58 (.cons (.int .u64) (.cons (.int .u64) (.cons (.int .u64) .nil))))) (.cons (.leaf (.int .i64)) .nil)))))))))))))))]
def louts_ref18_Members_4 : List OutL := [⟨(.exit 0), (dz 2 (.cons (.const (.ptr 1064 0 0)) (dz 2 (.cons (.leaf .bool) (.cons (.leaf .str) (dz 53 .nil)))))), [(1064, .cells (.cons (.leaf (.int .u64)) (.cons (.leaf (.slc 22 (.cons (.int .u64) .nil))) (.cons (.leaf (.int .u64)) (.cons (.leaf (.int .u64)) (.cons (.leaf (.int .u64)) (.cons (.leaf (.int .u64)) (.cons (.leaf (.slc 52 (.cons (.int .u64) (.cons (.int .i64) (.cons .str .nil))))) (.cons (.leaf .str) (.cons (.leaf (.int .i64)) (.cons (.leaf (.int .u64)) (.cons (.leaf (.int .u64)) (.cons (.leaf (.slc 22 (.cons (.int .u64) .nil))) (.cons (.leaf (.slc 58 (.cons (.int .u64) (.cons (.int .u64) (.cons (.int .u64) .nil))))) (.cons (.leaf (.int .i64)) .nil)))))))))))))))]⟩]
abbrev LT_ref18_Members_4 : Type := (Int × Bool × ByteArray × Int × Unit)
abbrev LM_ref18_Members_4 : Type := ((Int × List Int × Int × Int × Int × Int × (List (Int × Int × ByteArray)) × ByteArray × Int × Int × Int × List Int × (List (Int × Int × Int)) × Int × Unit) × Unit)
abbrev LO_ref18_Members_4 : Type := (Bool × ByteArray × Unit) × ((Int × List Int × Int × Int × Int × Int × (List (Int × Int × ByteArray)) × ByteArray × Int × Int × Int × List Int × (List (Int × Int × Int)) × Int × Unit) × Unit)
def ltree_ref18_Members_4 {α : Type} (x1 : Int) (x2 : Bool) (x3 : ByteArray) (x4 : Int) (x5 : Int) (x6 : List Int) (x7 : Int) (x8 : Int) (x9 : Int) (x10 : Int) (x11 : List (Int × Int × ByteArray)) (x12 : ByteArray) (x13 : Int) (x14 : Int) (x15 : Int) (x16 : List Int) (x17 : List (Int × Int × Int)) (x18 : Int) (kn : LT_ref18_Members_4 → LM_ref18_Members_4 → Option α) (kr : LO_ref18_Members_4 → Option α) : Option α :=
  cond (decide (x4 < (↑x11.length : Int)))
  (cond (decide (0 ≤ x4))
   (cond (decide (x4 < (↑x11.length : Int)))
    (cond ((x11.getD x4.toNat (0, 0, ByteArray.empty)).snd.fst == 1)
     (cond (decide (IntKind.u64.wrap (IntKind.u64.wrap (x9 + IntKind.u64.wrap x4) + 1) ≤ x1))
      (cond (decide (0 ≤ x4))
       (cond (decide (x4 < (↑x11.length : Int)))
        (kn (x1, (true, ((x11.getD x4.toNat (0, 0, ByteArray.empty)).snd.snd, (IntKind.i64.wrap (x4 + 1), ())))) ((x5, (x6, (x7, (x8, (x9, (x10, (x11, (x12, (x13, (x14, (x15, (x16, (x17, (x18, ())))))))))))))), ()))
        (none))
       (none))
      (kn (x1, (x2, (x3, (IntKind.i64.wrap (x4 + 1), ())))) ((x5, (x6, (x7, (x8, (x9, (x10, (x11, (x12, (x13, (x14, (x15, (x16, (x17, (x18, ())))))))))))))), ())))
     (kn (x1, (x2, (x3, (IntKind.i64.wrap (x4 + 1), ())))) ((x5, (x6, (x7, (x8, (x9, (x10, (x11, (x12, (x13, (x14, (x15, (x16, (x17, (x18, ())))))))))))))), ())))
    (none))
   (none))
  (kr ((x2, (x3, ())), ((x5, (x6, (x7, (x8, (x9, (x10, (x11, (x12, (x13, (x14, (x15, (x16, (x17, (x18, ())))))))))))))), ())))
noncomputable def L_ref18_Members_4 : LT_ref18_Members_4 → LM_ref18_Members_4 → Option LO_ref18_Members_4 := fun x y => runL (fun p => (fun (a : LT_ref18_Members_4) (b : LM_ref18_Members_4) => ltree_ref18_Members_4 a.1 a.2.1 a.2.2.1 a.2.2.2.1 b.1.1 b.1.2.1 b.1.2.2.1 b.1.2.2.2.1 b.1.2.2.2.2.1 b.1.2.2.2.2.2.1 b.1.2.2.2.2.2.2.1 b.1.2.2.2.2.2.2.2.1 b.1.2.2.2.2.2.2.2.2.1 b.1.2.2.2.2.2.2.2.2.2.1 b.1.2.2.2.2.2.2.2.2.2.2.1 b.1.2.2.2.2.2.2.2.2.2.2.2.1 b.1.2.2.2.2.2.2.2.2.2.2.2.2.1 b.1.2.2.2.2.2.2.2.2.2.2.2.2.2.1 (fun a' b' => some (.inl (a', b'))) fun r => some (.inr r)) p.1 p.2) (x, y)
theorem nl_ref18_Members_4 (x1 : Int) (x2 : Bool) (x3 : ByteArray) (x4 : Int) (x5 : Int) (x6 : List Int) (x7 : Int) (x8 : Int) (x9 : Int) (x10 : Int) (x11 : List (Int × Int × ByteArray)) (x12 : ByteArray) (x13 : Int) (x14 : Int) (x15 : Int) (x16 : List Int) (x17 : List (Int × Int × Int)) (x18 : Int) {α : Type} (kn : LT_ref18_Members_4 → LM_ref18_Members_4 → Option α) (kr : LO_ref18_Members_4 → Option α) : ltree_ref18_Members_4 x1 x2 x3 x4 x5 x6 x7 x8 x9 x10 x11 x12 x13 x14 x15 x16 x17 x18 kn kr = (ltree_ref18_Members_4 x1 x2 x3 x4 x5 x6 x7 x8 x9 x10 x11 x12 x13 x14 x15 x16 x17 x18 (fun a b => some (.inl (a, b))) fun r => some (.inr r)).bind (Sum.elim (fun p : LT_ref18_Members_4 × LM_ref18_Members_4 => kn p.1 p.2) kr) := by simp only [ltree_ref18_Members_4, bind_cond, bind_none', bind_some', bind_bind', bind_sum, Sum.elim_inl, Sum.elim_inr]
theorem Le_ref18_Members_4 (x1 : Int) (x2 : Bool) (x3 : ByteArray) (x4 : Int) (x5 : Int) (x6 : List Int) (x7 : Int) (x8 : Int) (x9 : Int) (x10 : Int) (x11 : List (Int × Int × ByteArray)) (x12 : ByteArray) (x13 : Int) (x14 : Int) (x15 : Int) (x16 : List Int) (x17 : List (Int × Int × Int)) (x18 : Int) : L_ref18_Members_4 (x1, (x2, (x3, (x4, ())))) ((x5, (x6, (x7, (x8, (x9, (x10, (x11, (x12, (x13, (x14, (x15, (x16, (x17, (x18, ())))))))))))))), ()) = ltree_ref18_Members_4 x1 x2 x3 x4 x5 x6 x7 x8 x9 x10 x11 x12 x13 x14 x15 x16 x17 x18 L_ref18_Members_4 some := runL_tree (A := LT_ref18_Members_4) (B := LM_ref18_Members_4) (R := LO_ref18_Members_4) (fun a b kn kr => ltree_ref18_Members_4 a.1 a.2.1 a.2.2.1 a.2.2.2.1 b.1.1 b.1.2.1 b.1.2.2.1 b.1.2.2.2.1 b.1.2.2.2.2.1 b.1.2.2.2.2.2.1 b.1.2.2.2.2.2.2.1 b.1.2.2.2.2.2.2.2.1 b.1.2.2.2.2.2.2.2.2.1 b.1.2.2.2.2.2.2.2.2.2.1 b.1.2.2.2.2.2.2.2.2.2.2.1 b.1.2.2.2.2.2.2.2.2.2.2.2.1 b.1.2.2.2.2.2.2.2.2.2.2.2.2.1 b.1.2.2.2.2.2.2.2.2.2.2.2.2.2.1 kn kr) (fun a b kn kr => nl_ref18_Members_4 a.1 a.2.1 a.2.2.1 a.2.2.2.1 b.1.1 b.1.2.1 b.1.2.2.1 b.1.2.2.2.1 b.1.2.2.2.2.1 b.1.2.2.2.2.2.1 b.1.2.2.2.2.2.2.1 b.1.2.2.2.2.2.2.2.1 b.1.2.2.2.2.2.2.2.2.1 b.1.2.2.2.2.2.2.2.2.2.1 b.1.2.2.2.2.2.2.2.2.2.2.1 b.1.2.2.2.2.2.2.2.2.2.2.2.1 b.1.2.2.2.2.2.2.2.2.2.2.2.2.1 b.1.2.2.2.2.2.2.2.2.2.2.2.2.2.1 kn kr) (x1, (x2, (x3, (x4, ())))) ((x5, (x6, (x7, (x8, (x9, (x10, (x11, (x12, (x13, (x14, (x15, (x16, (x17, (x18, ())))))))))))))), ())
def tree_ref18_Members (F_ref18_Named : A_ref18_Named → M_ref18_Named → Option O_ref18_Named) (L_ref18_Members_4 : LT_ref18_Members_4 → LM_ref18_Members_4 → Option LO_ref18_Members_4) {α : Type} (x1 : Int) (x2 : List Int) (x3 : Int) (x4 : Int) (x5 : Int) (x6 : Int) (x7 : List (Int × Int × ByteArray)) (x8 : ByteArray) (x9 : Int) (x10 : Int) (x11 : Int) (x12 : List Int) (x13 : List (Int × Int × Int)) (x14 : Int) (x15 : Int) (K : O_ref18_Members → Option α) : Option α :=
  (L_ref18_Members_4 (x15, Bool.false, ByteArray.empty, 0, ())   ((x1, x2, x3, x4, x5, x6, x7, x8, x9, x10, x11, x12, x13, x14, ()), ())).bind fun r1 =>
  (F_ref18_Named (r1.fst.snd.fst, ()) ()).bind fun r2 =>
  cond (!r1.fst.fst)
  (cond (decide ((0 + r1.snd.fst.snd.fst.length) * 8 ≤ 140737488355328))
   (K ([] ++ r1.snd.fst.snd.fst, ()))
   (none))
  (cond (!r2.fst.snd.fst)
   (cond (decide ((0 + r1.snd.fst.snd.fst.length) * 8 ≤ 140737488355328))
    (K ([] ++ r1.snd.fst.snd.fst, ()))
    (none))
   (K (r2.fst.fst, ())))
noncomputable def F_ref18_Members : A_ref18_Members → M_ref18_Members → Option O_ref18_Members := fun a b => tree_ref18_Members F_ref18_Named L_ref18_Members_4 a.1.1 a.1.2.1 a.1.2.2.1 a.1.2.2.2.1 a.1.2.2.2.2.1 a.1.2.2.2.2.2.1 a.1.2.2.2.2.2.2.1 a.1.2.2.2.2.2.2.2.1 a.1.2.2.2.2.2.2.2.2.1 a.1.2.2.2.2.2.2.2.2.2.1 a.1.2.2.2.2.2.2.2.2.2.2.1 a.1.2.2.2.2.2.2.2.2.2.2.2.1 a.1.2.2.2.2.2.2.2.2.2.2.2.2.1 a.1.2.2.2.2.2.2.2.2.2.2.2.2.2.1 a.2.1 some
theorem n_ref18_Members (F_ref18_Named : A_ref18_Named → M_ref18_Named → Option O_ref18_Named) (L_ref18_Members_4 : LT_ref18_Members_4 → LM_ref18_Members_4 → Option LO_ref18_Members_4) (x1 : Int) (x2 : List Int) (x3 : Int) (x4 : Int) (x5 : Int) (x6 : Int) (x7 : List (Int × Int × ByteArray)) (x8 : ByteArray) (x9 : Int) (x10 : Int) (x11 : Int) (x12 : List Int) (x13 : List (Int × Int × Int)) (x14 : Int) (x15 : Int) {α : Type} (K : O_ref18_Members → Option α) : tree_ref18_Members F_ref18_Named L_ref18_Members_4 x1 x2 x3 x4 x5 x6 x7 x8 x9 x10 x11 x12 x13 x14 x15 K = (tree_ref18_Members F_ref18_Named L_ref18_Members_4 x1 x2 x3 x4 x5 x6 x7 x8 x9 x10 x11 x12 x13 x14 x15 some).bind K := by simp only [tree_ref18_Members, bind_cond, bind_none', bind_some', bind_bind', bind_sum]
theorem Fe_ref18_Members (x1 : Int) (x2 : List Int) (x3 : Int) (x4 : Int) (x5 : Int) (x6 : Int) (x7 : List (Int × Int × ByteArray)) (x8 : ByteArray) (x9 : Int) (x10 : Int) (x11 : Int) (x12 : List Int) (x13 : List (Int × Int × Int)) (x14 : Int) (x15 : Int) : F_ref18_Members ((x1, (x2, (x3, (x4, (x5, (x6, (x7, (x8, (x9, (x10, (x11, (x12, (x13, (x14, ())))))))))))))), (x15, ())) () = tree_ref18_Members F_ref18_Named L_ref18_Members_4 x1 x2 x3 x4 x5 x6 x7 x8 x9 x10 x11 x12 x13 x14 x15 some := rfl
end Go.Proofs.Ytgakbdikappdbaa.S2
