/- Law 32: the order of events;exchanges in a list. No condition. -/
import Derived.Test.YtjolgbkkocjpgaaGreatDoorTKA
import Derived.Test.YtjolgbkkocjpgaaGreatDoorTS
set_option linter.defProp false
set_option linter.unusedSimpArgs false
set_option linter.unusedVariables false
set_option linter.unusedSectionVars false
namespace Go.Proofs.YtjolgbkkocjpgaaGreatDoor
open Go.RowKit
set_option maxRecDepth 100000
set_option maxHeartbeats 16000000
set_option maxHeartbeats 32000000
def T1(l:List Ev):List Ev:=CV CW (l.take 40)++CV CW (l.drop 40)
end Go.Proofs.YtjolgbkkocjpgaaGreatDoor
