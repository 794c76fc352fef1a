/- Law 52: the guarantees,and the program's Check. No condition. -/
import Derived.Test.YtjdhnoffoknlnaaGreatDoorWJ
set_option linter.unusedSimpArgs false
set_option linter.unusedVariables false
set_option linter.unusedSectionVars false
namespace Go.Proofs.YtjdhnoffoknlnaaGreatDoor
open Go.RowKit
set_option maxRecDepth 100000
set_option maxHeartbeats 4000000
section
variable (a b:SAct)
end
end Go.Proofs.YtjdhnoffoknlnaaGreatDoor
