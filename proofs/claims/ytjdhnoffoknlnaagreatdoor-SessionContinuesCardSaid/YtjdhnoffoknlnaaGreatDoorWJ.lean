/- Law 52: the guarantees. No condition. -/
import Derived.Test.YtjdhnoffoknlnaaGreatDoorWI
set_option linter.unusedSimpArgs false
set_option linter.unusedVariables false
set_option linter.unusedSectionVars false
namespace Go.Proofs.YtjdhnoffoknlnaaGreatDoor
open Go.RowKit
set_option maxRecDepth 100000
set_option maxHeartbeats 4000000
end Go.Proofs.YtjdhnoffoknlnaaGreatDoor
