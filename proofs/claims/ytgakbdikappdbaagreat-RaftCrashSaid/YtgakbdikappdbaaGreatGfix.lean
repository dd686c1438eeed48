/- Plain forms of the program's functions, by program. -/
import Derived.Test.YtgakbdikappdbaaGreatGapp
set_option maxRecDepth 100000
set_option maxHeartbeats 0
set_option linter.unusedVariables false
set_option linter.unusedSimpArgs false
namespace Go.Proofs.YtgakbdikappdbaaGreat.S2
open Go
def args_law18_fixed : SkL := .nil
def mem_law18_fixed : MSk := []
def outs_law18_fixed : List OutC := [⟨(.const (.bool true)), []⟩]
abbrev A_law18_fixed : Type := Unit
abbrev M_law18_fixed : Type := Unit
abbrev O_law18_fixed : Type := Unit × Unit
def F_law18_fixed : A_law18_fixed → M_law18_fixed → Option O_law18_fixed := fun _ _ => some ((), ())
end Go.Proofs.YtgakbdikappdbaaGreat.S2
