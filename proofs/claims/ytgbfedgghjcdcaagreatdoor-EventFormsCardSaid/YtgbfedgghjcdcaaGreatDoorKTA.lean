/- Lists of events as arguments. No condition. -/
import Derived.Test.YtgbfedgghjcdcaaGreatDoorEF0
import Derived.Test.YtgbfedgghjcdcaaGreatDoorTKA
namespace Go.Proofs.YtgbfedgghjcdcaaGreatDoor
set_option linter.unusedSimpArgs false
set_option linter.unusedVariables false
set_option linter.unusedSectionVars false
open Go.RowKit
set_option maxRecDepth 100000
end Go.Proofs.YtgbfedgghjcdcaaGreatDoor
