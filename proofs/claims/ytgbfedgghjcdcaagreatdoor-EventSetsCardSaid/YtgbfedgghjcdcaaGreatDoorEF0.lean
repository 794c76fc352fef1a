/- Law 32: arguments opened. No condition. -/
import Derived.Test.YtgbfedgghjcdcaaGreatDoorCKV
namespace Go.Proofs.YtgbfedgghjcdcaaGreatDoor
set_option linter.unusedSimpArgs false
set_option linter.unusedVariables false
set_option linter.unusedSectionVars false
open Go.RowKit
set_option maxRecDepth 100000
end Go.Proofs.YtgbfedgghjcdcaaGreatDoor
