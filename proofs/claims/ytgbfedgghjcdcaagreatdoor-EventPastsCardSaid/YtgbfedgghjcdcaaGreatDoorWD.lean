/- Law 52: events. No condition. -/
import Derived.Test.YtgbfedgghjcdcaaGreatDoorWC
namespace Go.Proofs.YtgbfedgghjcdcaaGreatDoor
set_option linter.unusedSimpArgs false
set_option linter.unusedVariables false
set_option linter.unusedSectionVars false
open Go.RowKit
set_option maxRecDepth 100000
theorem need_g : cfg.P.eqGuardType cfg.P.depth 34 = false := by kernel_rfl
end Go.Proofs.YtgbfedgghjcdcaaGreatDoor
