/- Law 52: lists of numbers compared, the reference's. No condition. -/
import Derived.Test.YtgbfedgghjcdcaaGreatDoorWA
namespace Go.Proofs.YtgbfedgghjcdcaaGreatDoor
set_option linter.unusedSimpArgs false
set_option linter.unusedVariables false
set_option linter.unusedSectionVars false
open Go.RowKit
set_option maxRecDepth 100000
set_option maxHeartbeats 4000000

end Go.Proofs.YtgbfedgghjcdcaaGreatDoor
