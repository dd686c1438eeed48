/- Plain forms of the program's functions,by program. -/
import Derived.Test.YtljfdfghagiblaaS2y
import Derived.Lib.Repeat
set_option maxRecDepth 100000
set_option maxHeartbeats 0
set_option linter.unusedVariables false
set_option linter.unusedSimpArgs false
namespace Go.Proofs.Ytljfdfghagiblaa.S2
open Go
abbrev M_ref03_Oracle_draw:Type:=((Int×Unit)×List Int×(List (Int×Int×Int×ByteArray×ByteArray×Int))×List Int×Unit)
end Go.Proofs.Ytljfdfghagiblaa.S2
