/- Plain forms of the program's functions, by program. -/
import Derived.Test.YtjhaidbfahobmaaGlaw17
set_option maxRecDepth 100000
set_option maxHeartbeats 0
set_option linter.unusedVariables false
set_option linter.unusedSimpArgs false
namespace Go.Proofs.Ytjhaidbfahobmaa.S2
open Go
/-! countersign/countersignlaw17.ReplBack -/
def args_law17_ReplBack : SkL := (.cons (.leaf (.int .u64)) (.cons (.leaf (.int .u64)) .nil))
def mem_law17_ReplBack : MSk := []
def outs_law17_ReplBack : List OutC := [⟨(.leaf .bool), []⟩]
abbrev A_law17_ReplBack : Type := (Int × Int × Unit)
abbrev M_law17_ReplBack : Type := Unit
abbrev O_law17_ReplBack : Type := Bool × Unit
def tree_law17_ReplBack (F_repl_Back : A_repl_Back → M_repl_Back → Option O_repl_Back) (F_law17_fixed : A_law17_fixed → M_law17_fixed → Option O_law17_fixed) {α : Type} (x1 : Int) (x2 : Int) (K : O_law17_ReplBack → Option α) : Option α :=
 (F_repl_Back (x1, x2, ()) ()).bind fun r1 =>
 (F_law17_fixed () ()).bind fun r2 =>
 cond (!r2.fst)
 (K (false, ()))
 (cond (decide (r1.fst < 1))
 (K (false, ()))
 (cond (decide (x1 ≥ 2))
 (cond (decide (r1.fst ≥ x1))
 (K (false, ()))
 (cond (decide (x1 < 2))
 (cond (r1.fst == 1)
 (K (true, ()))
 (cond (decide (x1 ≥ 2))
 (cond (r1.fst == IntKind.u64.wrap (x1 - 1))
 (K (true, ()))
 (cond (r1.fst == IntKind.u64.wrap (x2 + 1))
 (K (true, ()))
 (K (r1.fst == 1, ()))))
 (K (false, ()))))
 (cond (decide (x1 ≥ 2))
 (cond (r1.fst == IntKind.u64.wrap (x1 - 1))
 (K (true, ()))
 (cond (r1.fst == IntKind.u64.wrap (x2 + 1))
 (K (true, ()))
 (K (r1.fst == 1, ()))))
 (K (false, ())))))
 (cond (decide (x1 < 2))
 (cond (r1.fst == 1)
 (K (true, ()))
 (cond (decide (x1 ≥ 2))
 (cond (r1.fst == IntKind.u64.wrap (x1 - 1))
 (K (true, ()))
 (cond (r1.fst == IntKind.u64.wrap (x2 + 1))
 (K (true, ()))
 (K (r1.fst == 1, ()))))
 (K (false, ()))))
 (cond (decide (x1 ≥ 2))
 (cond (r1.fst == IntKind.u64.wrap (x1 - 1))
 (K (true, ()))
 (cond (r1.fst == IntKind.u64.wrap (x2 + 1))
 (K (true, ()))
 (K (r1.fst == 1, ()))))
 (K (false, ()))))))
noncomputable def F_law17_ReplBack : A_law17_ReplBack → M_law17_ReplBack → Option O_law17_ReplBack := fun a b => tree_law17_ReplBack F_repl_Back F_law17_fixed a.1 a.2.1 some
theorem n_law17_ReplBack (F_repl_Back : A_repl_Back → M_repl_Back → Option O_repl_Back) (F_law17_fixed : A_law17_fixed → M_law17_fixed → Option O_law17_fixed) (x1 : Int) (x2 : Int) {α : Type} (K : O_law17_ReplBack → Option α) : tree_law17_ReplBack F_repl_Back F_law17_fixed x1 x2 K = (tree_law17_ReplBack F_repl_Back F_law17_fixed x1 x2 some).bind K := by simp only [tree_law17_ReplBack, bind_cond, bind_none', bind_some', bind_bind', bind_sum]
theorem Fe_law17_ReplBack (x1 : Int) (x2 : Int) : F_law17_ReplBack (x1, (x2, ())) () = tree_law17_ReplBack F_repl_Back F_law17_fixed x1 x2 some := rfl

end Go.Proofs.Ytjhaidbfahobmaa.S2
