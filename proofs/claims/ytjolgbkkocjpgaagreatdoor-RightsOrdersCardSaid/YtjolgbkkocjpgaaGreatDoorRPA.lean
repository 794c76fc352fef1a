/- The reference's plans: when they are valid,as contracts. No condition. -/
import Derived.Test.YtjolgbkkocjpgaaGreatDoorTLP
import Derived.Test.YtjolgbkkocjpgaaGreatDoorTNF
set_option linter.defProp false
set_option linter.unusedSimpArgs false
set_option linter.unusedVariables false
set_option linter.unusedSectionVars false
namespace Go.Proofs.YtjolgbkkocjpgaaGreatDoor
open Go.RowKit
set_option maxRecDepth 100000
set_option maxHeartbeats 32000000
end Go.Proofs.YtjolgbkkocjpgaaGreatDoor
