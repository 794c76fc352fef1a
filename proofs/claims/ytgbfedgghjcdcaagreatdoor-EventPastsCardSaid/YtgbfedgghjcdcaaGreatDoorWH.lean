/- Law 52: formed events, the reference's. No condition. -/
import Derived.Test.YtgbfedgghjcdcaaGreatDoorWG
namespace Go.Proofs.YtgbfedgghjcdcaaGreatDoor
set_option linter.unusedSimpArgs false
set_option linter.unusedVariables false
set_option linter.unusedSectionVars false
open Go.RowKit
set_option maxRecDepth 100000
set_option maxHeartbeats 4000000

end Go.Proofs.YtgbfedgghjcdcaaGreatDoor
