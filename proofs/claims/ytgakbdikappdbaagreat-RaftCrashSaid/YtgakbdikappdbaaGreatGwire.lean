/- Plain forms of the program's functions, by program. -/
import Derived.Test.YtgakbdikappdbaaGreatS2y
set_option maxRecDepth 100000
set_option maxHeartbeats 0
set_option linter.unusedVariables false
set_option linter.unusedSimpArgs false
namespace Go.Proofs.YtgakbdikappdbaaGreat.S2
open Go
def args_wire_put : SkL := (.cons (.const .nils) (.cons (.leaf (.int .u64)) .nil))
def mem_wire_put : MSk := []
def outs_wire_put : List OutC := [⟨(.leaf (.slc 5 (.cons (.int .u8) .nil))), []⟩]
abbrev A_wire_put : Type := (Int × Unit)
abbrev M_wire_put : Type := Unit
abbrev O_wire_put : Type := List Int × Unit
def ltmps_wire_put_1 : SkL := (.cons (.const (.slw 500)) (.cons (.leaf (.int .u64)) (dz 18 .nil)))
def lmem_wire_put_1 : MSk := [(500, .row 5 (.cons (.int .u8) .nil))]
def louts_wire_put_1 : List OutL := [⟨(.exit 0), (.cons (.const (.slw 500)) (.cons (.leaf (.int .u64)) (dz 18 .nil))), [(500, .row 5 (.cons (.int .u8) .nil))]⟩]
abbrev LT_wire_put_1 : Type := (Int × Unit)
abbrev LM_wire_put_1 : Type := (List Int × Unit)
abbrev LO_wire_put_1 : Type := (Int × Unit) × (List Int × Unit)
def ltree_wire_put_1 {α : Type} (x1 : Int) (x2 : List Int) (kn : LT_wire_put_1 → LM_wire_put_1 → Option α) (kr : LO_wire_put_1 → Option α) : Option α :=
  cond (decide (x1 ≥ 128))
  (cond (decide   ((x2.length +         ([] ++             [IntKind.u8.wrap                 (↑(BitVec.ofInt 8 (IntKind.u8.wrap x1) ||| BitVec.ofInt 8 128).toNat : Int)]).length) *       1 ≤     140737488355328))
   (kn (x1.fdiv 128, ()) (x2 ++ ([] ++ [IntKind.u8.wrap (↑(BitVec.ofInt 8 (IntKind.u8.wrap x1) ||| BitVec.ofInt 8 128).toNat : Int)]), ()))
   (none))
  (kr ((x1, ()), (x2, ())))
noncomputable def L_wire_put_1 : LT_wire_put_1 → LM_wire_put_1 → Option LO_wire_put_1 := fun x y => runL (fun p => (fun (a : LT_wire_put_1) (b : LM_wire_put_1) => ltree_wire_put_1 a.1 b.1 (fun a' b' => some (.inl (a', b'))) fun r => some (.inr r)) p.1 p.2) (x, y)
theorem nl_wire_put_1 (x1 : Int) (x2 : List Int) {α : Type} (kn : LT_wire_put_1 → LM_wire_put_1 → Option α) (kr : LO_wire_put_1 → Option α) : ltree_wire_put_1 x1 x2 kn kr = (ltree_wire_put_1 x1 x2 (fun a b => some (.inl (a, b))) fun r => some (.inr r)).bind (Sum.elim (fun p : LT_wire_put_1 × LM_wire_put_1 => kn p.1 p.2) kr) := by simp only [ltree_wire_put_1, bind_cond, bind_none', bind_some', bind_bind', bind_sum, Sum.elim_inl, Sum.elim_inr]
theorem Le_wire_put_1 (x1 : Int) (x2 : List Int) : L_wire_put_1 (x1, ()) (x2, ()) = ltree_wire_put_1 x1 x2 L_wire_put_1 some := runL_tree (A := LT_wire_put_1) (B := LM_wire_put_1) (R := LO_wire_put_1) (fun a b kn kr => ltree_wire_put_1 a.1 b.1 kn kr) (fun a b kn kr => nl_wire_put_1 a.1 b.1 kn kr) (x1, ()) (x2, ())
def tree_wire_put (L_wire_put_1 : LT_wire_put_1 → LM_wire_put_1 → Option LO_wire_put_1) {α : Type} (x1 : Int) (K : O_wire_put → Option α) : Option α :=
  (L_wire_put_1 (x1, ()) ([], ())).bind fun r1 =>
  cond (decide ((r1.snd.fst.length + 1) * 1 ≤ 140737488355328))
  (K (r1.snd.fst ++ ([] ++ [IntKind.u8.wrap r1.fst.fst]), ()))
  (none)
noncomputable def F_wire_put : A_wire_put → M_wire_put → Option O_wire_put := fun a b => tree_wire_put L_wire_put_1 a.1 some
theorem n_wire_put (L_wire_put_1 : LT_wire_put_1 → LM_wire_put_1 → Option LO_wire_put_1) (x1 : Int) {α : Type} (K : O_wire_put → Option α) : tree_wire_put L_wire_put_1 x1 K = (tree_wire_put L_wire_put_1 x1 some).bind K := by simp only [tree_wire_put, bind_cond, bind_none', bind_some', bind_bind', bind_sum]
theorem Fe_wire_put (x1 : Int) : F_wire_put (x1, ()) () = tree_wire_put L_wire_put_1 x1 some := rfl
def args_wire_PutUint : SkL := (.cons (.leaf (.int .u64)) .nil)
def mem_wire_PutUint : MSk := []
def outs_wire_PutUint : List OutC := [⟨(.leaf .str), []⟩]
abbrev A_wire_PutUint : Type := (Int × Unit)
abbrev M_wire_PutUint : Type := Unit
abbrev O_wire_PutUint : Type := ByteArray × Unit
def tree_wire_PutUint (F_wire_put : A_wire_put → M_wire_put → Option O_wire_put) {α : Type} (x1 : Int) (K : O_wire_PutUint → Option α) : Option α :=
  (F_wire_put (x1, ()) ()).bind fun r1 =>
  K (Go.strOfNums r1.fst, ())
noncomputable def F_wire_PutUint : A_wire_PutUint → M_wire_PutUint → Option O_wire_PutUint := fun a b => tree_wire_PutUint F_wire_put a.1 some
theorem n_wire_PutUint (F_wire_put : A_wire_put → M_wire_put → Option O_wire_put) (x1 : Int) {α : Type} (K : O_wire_PutUint → Option α) : tree_wire_PutUint F_wire_put x1 K = (tree_wire_PutUint F_wire_put x1 some).bind K := by simp only [tree_wire_PutUint, bind_cond, bind_none', bind_some', bind_bind', bind_sum]
theorem Fe_wire_PutUint (x1 : Int) : F_wire_PutUint (x1, ()) () = tree_wire_PutUint F_wire_put x1 some := rfl
end Go.Proofs.YtgakbdikappdbaaGreat.S2
