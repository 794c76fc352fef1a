/- Law 52: Parse of a clock's text;sessions opened. No condition. -/
import Derived.Test.YtjolgbkkocjpgaaGreatDoorTL
import Derived.Test.YtjolgbkkocjpgaaGreatDoorTS
set_option linter.defProp false
set_option linter.unusedSimpArgs false
set_option linter.unusedVariables false
set_option linter.unusedSectionVars false
namespace Go.Proofs.YtjolgbkkocjpgaaGreatDoor
open Go.RowKit
set_option maxRecDepth 100000
set_option maxHeartbeats 4000000
end Go.Proofs.YtjolgbkkocjpgaaGreatDoor
