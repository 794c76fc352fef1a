/- Law 52: events. No condition. -/
import Derived.Test.YtgbfedgghjcdcaaGreatDoorWC
namespace Go.Proofs.YtgbfedgghjcdcaaGreatDoor
set_option linter.unusedSimpArgs false
set_option linter.unusedVariables false
set_option linter.unusedSectionVars false
open Go.RowKit
set_option maxRecDepth 100000
theorem need_eq (a b c d : Int) : eqC cfg.P 20 34 [.int .i64 a, .int .i64 b, .int .i64 c, .int .i64 d] [.int .i64 0, .int .i64 0, .int .i64 0, .int .i64 0] = some ((decide (a = 0) && (decide (b = 0) && (decide (c = 0) && true))) && (decide (d = 0) && true)) := by kernel_rfl
theorem need_g : cfg.P.eqGuardType cfg.P.depth 34 = false := by kernel_rfl
end Go.Proofs.YtgbfedgghjcdcaaGreatDoor
