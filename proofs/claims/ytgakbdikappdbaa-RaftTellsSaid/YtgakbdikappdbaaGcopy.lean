/- Plain forms of the program's functions, by program. -/
import Derived.Test.YtgakbdikappdbaaS2y
set_option maxRecDepth 100000
set_option maxHeartbeats 0
set_option linter.unusedVariables false
set_option linter.unusedSimpArgs false
namespace Go.Proofs.Ytgakbdikappdbaa.S2
open Go
def args_slices_Clone_uint64 : SkL := (.cons (.leaf (.slc 22 (.cons (.int .u64) .nil))) .nil)
def mem_slices_Clone_uint64 : MSk := []
def outs_slices_Clone_uint64 : List OutC := [⟨(.leaf (.slc 22 (.cons (.int .u64) .nil))), []⟩]
abbrev A_slices_Clone_uint64 : Type := (List Int × Unit)
abbrev M_slices_Clone_uint64 : Type := Unit
abbrev O_slices_Clone_uint64 : Type := List Int × Unit
def tree_slices_Clone_uint64 {α : Type} (x1 : List Int) (K : O_slices_Clone_uint64 → Option α) : Option α :=
  cond (decide (0 < x1.length))
  (cond (decide ((0 + x1.length) * 8 ≤ 140737488355328))
   (K ([] ++ x1, ()))
   (none))
  (none)
def F_slices_Clone_uint64 : A_slices_Clone_uint64 → M_slices_Clone_uint64 → Option O_slices_Clone_uint64 := fun a b => cond (decide (a.1.length * 8 ≤ 140737488355328)) (some (a.1, ())) none
end Go.Proofs.Ytgakbdikappdbaa.S2
