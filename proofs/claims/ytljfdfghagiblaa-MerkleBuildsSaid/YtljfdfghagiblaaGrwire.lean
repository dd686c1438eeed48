/- Plain forms of the program's functions, by program. -/
import Derived.Test.YtljfdfghagiblaaS2y
import Derived.Lib.Repeat
set_option maxRecDepth 100000
set_option maxHeartbeats 0
set_option linter.unusedVariables false
set_option linter.unusedSimpArgs false
namespace Go.Proofs.Ytljfdfghagiblaa.S2
open Go
/-! countersign/countersignref01.PutUint -/
def args_ref01_PutUint : SkL := (.cons (.leaf (.int .u64)) .nil)
def mem_ref01_PutUint : MSk := []
def outs_ref01_PutUint : List OutC := [⟨(.leaf .str), []⟩]
abbrev A_ref01_PutUint : Type := (Int × Unit)
abbrev M_ref01_PutUint : Type := Unit
abbrev O_ref01_PutUint : Type := ByteArray × Unit
def ltmps_ref01_PutUint_2 : SkL := (.cons (.leaf (.int .u64)) (dz 2 (.cons (.const (.slw 503)) (dz 19 .nil))))
def lmem_ref01_PutUint_2 : MSk := [(503, .row 5 (.cons (.int .u8) .nil))]
def louts_ref01_PutUint_2 : List OutL := [⟨(.exit 0), (.cons (.leaf (.int .u64)) (dz 2 (.cons (.const (.slw 503)) (dz 19 .nil)))), [(503, .row 5 (.cons (.int .u8) .nil))]⟩]
abbrev LT_ref01_PutUint_2 : Type := (Int × Unit)
abbrev LM_ref01_PutUint_2 : Type := (List Int × Unit)
abbrev LO_ref01_PutUint_2 : Type := (Int × Unit) × (List Int × Unit)
def ltree_ref01_PutUint_2 {α : Type} (x1 : Int) (x2 : List Int) (kn : LT_ref01_PutUint_2 → LM_ref01_PutUint_2 → Option α) (kr : LO_ref01_PutUint_2 → Option α) : Option α :=
 cond (decide (x1 > 127))
 (cond (decide ((x2.length + 1) * 1 ≤ 140737488355328))
 (kn (IntKind.u64.wrap (x1.tdiv 128), ()) (x2 ++ ([] ++ [IntKind.u8.wrap (IntKind.u64.wrap (x1.tmod 128 + 128))]), ()))
 (none))
 (kr ((x1, ()), (x2, ())))
noncomputable def L_ref01_PutUint_2 : LT_ref01_PutUint_2 → LM_ref01_PutUint_2 → Option LO_ref01_PutUint_2 := fun x y => runL (fun p => (fun (a : LT_ref01_PutUint_2) (b : LM_ref01_PutUint_2) => ltree_ref01_PutUint_2 a.1 b.1 (fun a' b' => some (.inl (a', b'))) fun r => some (.inr r)) p.1 p.2) (x, y)
theorem nl_ref01_PutUint_2 (x1 : Int) (x2 : List Int) {α : Type} (kn : LT_ref01_PutUint_2 → LM_ref01_PutUint_2 → Option α) (kr : LO_ref01_PutUint_2 → Option α) : ltree_ref01_PutUint_2 x1 x2 kn kr = (ltree_ref01_PutUint_2 x1 x2 (fun a b => some (.inl (a, b))) fun r => some (.inr r)).bind (Sum.elim (fun p : LT_ref01_PutUint_2 × LM_ref01_PutUint_2 => kn p.1 p.2) kr) := by simp only [ltree_ref01_PutUint_2, bind_cond, bind_none', bind_some', bind_bind', bind_sum, Sum.elim_inl, Sum.elim_inr]
theorem Le_ref01_PutUint_2 (x1 : Int) (x2 : List Int) : L_ref01_PutUint_2 (x1, ()) (x2, ()) = ltree_ref01_PutUint_2 x1 x2 L_ref01_PutUint_2 some := runL_tree (A := LT_ref01_PutUint_2) (B := LM_ref01_PutUint_2) (R := LO_ref01_PutUint_2) (fun a b kn kr => ltree_ref01_PutUint_2 a.1 b.1 kn kr) (fun a b kn kr => nl_ref01_PutUint_2 a.1 b.1 kn kr) (x1, ()) (x2, ())
def tree_ref01_PutUint (L_ref01_PutUint_2 : LT_ref01_PutUint_2 → LM_ref01_PutUint_2 → Option LO_ref01_PutUint_2) {α : Type} (x1 : Int) (K : O_ref01_PutUint → Option α) : Option α :=
 (L_ref01_PutUint_2 (x1, ()) ([], ())).bind fun r1 =>
 cond (decide ((r1.snd.fst.length + 1) * 1 ≤ 140737488355328))
 (K (Go.strOfNums (r1.snd.fst ++ ([] ++ [IntKind.u8.wrap r1.fst.fst])), ()))
 (none)
noncomputable def F_ref01_PutUint : A_ref01_PutUint → M_ref01_PutUint → Option O_ref01_PutUint := fun a b => tree_ref01_PutUint L_ref01_PutUint_2 a.1 some
theorem n_ref01_PutUint (L_ref01_PutUint_2 : LT_ref01_PutUint_2 → LM_ref01_PutUint_2 → Option LO_ref01_PutUint_2) (x1 : Int) {α : Type} (K : O_ref01_PutUint → Option α) : tree_ref01_PutUint L_ref01_PutUint_2 x1 K = (tree_ref01_PutUint L_ref01_PutUint_2 x1 some).bind K := by simp only [tree_ref01_PutUint, bind_cond, bind_none', bind_some', bind_bind', bind_sum]
theorem Fe_ref01_PutUint (x1 : Int) : F_ref01_PutUint (x1, ()) () = tree_ref01_PutUint L_ref01_PutUint_2 x1 some := rfl

end Go.Proofs.Ytljfdfghagiblaa.S2
