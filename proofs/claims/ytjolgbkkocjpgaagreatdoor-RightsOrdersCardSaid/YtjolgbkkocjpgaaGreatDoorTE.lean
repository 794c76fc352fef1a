/- Law 52: texts of clocks,any text: the code's reading,the reference's. No condition. -/
import Derived.Test.YtjolgbkkocjpgaaGreatDoorXA
import Derived.Test.YtjolgbkkocjpgaaGreatDoorTD
import Derived.Test.YtjolgbkkocjpgaaGreatDoorTW
import Derived.Test.YtjolgbkkocjpgaaGreatDoorTX
set_option linter.defProp false
set_option linter.unusedSimpArgs false
set_option linter.unusedVariables false
set_option linter.unusedSectionVars false
namespace Go.Proofs.YtjolgbkkocjpgaaGreatDoor
open Go.RowKit
set_option maxRecDepth 100000
set_option maxHeartbeats 8000000
set_option maxHeartbeats 16000000
end Go.Proofs.YtjolgbkkocjpgaaGreatDoor
