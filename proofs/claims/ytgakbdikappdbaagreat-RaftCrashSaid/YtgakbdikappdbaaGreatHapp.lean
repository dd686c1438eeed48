/- The program's functions come to their plain forms, by program. -/
import Derived.Test.YtgakbdikappdbaaGreatGapp
import Derived.Test.YtgakbdikappdbaaGreatHbase
import Derived.Test.YtgakbdikappdbaaGreatApp
set_option maxRecDepth 100000
set_option maxHeartbeats 0
set_option linter.unusedVariables false
set_option linter.unusedSimpArgs false
namespace Go.Proofs.YtgakbdikappdbaaGreat.S2
open Go
noncomputable def C_slices_AppendSeq_uint64 : Con := ⟨args_slices_AppendSeq_uint64, mem_slices_AppendSeq_uint64, outs_slices_AppendSeq_uint64, F_slices_AppendSeq_uint64⟩
theorem ok_slices_AppendSeq_uint64 : ConOK Tryz.prog 86 C_slices_AppendSeq_uint64 := AppSeq.holds
end Go.Proofs.YtgakbdikappdbaaGreat.S2
