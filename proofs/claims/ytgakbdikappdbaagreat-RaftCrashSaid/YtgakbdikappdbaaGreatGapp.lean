/- Plain forms of the program's functions, by program. -/
import Derived.Test.YtgakbdikappdbaaGreatS2y
set_option maxRecDepth 100000
set_option maxHeartbeats 0
set_option linter.unusedVariables false
set_option linter.unusedSimpArgs false
namespace Go.Proofs.YtgakbdikappdbaaGreat.S2
open Go
def args_slices_AppendSeq_uint64 : SkL := (.cons (.const .nils) (.cons (.fn 66 (.cons (.const (.ptr 0 0 0)) .nil)) .nil))
def mem_slices_AppendSeq_uint64 : MSk := [(0, .cells (.cons (.leaf (.slc 22 (.cons (.int .u64) .nil))) .nil))]
def outs_slices_AppendSeq_uint64 : List OutC := [⟨(.const (.slw 1)), [(1, .row 22 (.cons (.int .u64) .nil))]⟩]
abbrev A_slices_AppendSeq_uint64 : Type := (Unit × Unit)
abbrev M_slices_AppendSeq_uint64 : Type := ((List Int × Unit) × Unit)
abbrev O_slices_AppendSeq_uint64 : Type := Unit × (List Int × Unit)
def F_slices_AppendSeq_uint64 : A_slices_AppendSeq_uint64 → M_slices_AppendSeq_uint64 → Option O_slices_AppendSeq_uint64 := fun a b => cond (decide (b.1.1.length * 8 ≤ 140737488351232)) (some ((), (b.1.1, ()))) none
end Go.Proofs.YtgakbdikappdbaaGreat.S2
