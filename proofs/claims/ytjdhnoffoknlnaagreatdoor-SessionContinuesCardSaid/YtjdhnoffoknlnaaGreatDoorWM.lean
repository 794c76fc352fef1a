/- Law 52: the reference's functions on acts. No condition. -/
import Derived.Test.YtjdhnoffoknlnaaGreatDoorTW
import Derived.Test.YtjdhnoffoknlnaaGreatDoorWLS
set_option linter.unusedSimpArgs false
set_option linter.unusedVariables false
set_option linter.unusedSectionVars false
namespace Go.Proofs.YtjdhnoffoknlnaaGreatDoor
open Go.RowKit
set_option maxRecDepth 100000
set_option maxHeartbeats 4000000
end Go.Proofs.YtjdhnoffoknlnaaGreatDoor
