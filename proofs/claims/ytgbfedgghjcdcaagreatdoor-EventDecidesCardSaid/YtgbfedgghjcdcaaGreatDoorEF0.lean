/- Law 32: arguments opened. No condition. -/
import Derived.Test.YtgbfedgghjcdcaaGreatDoorCKV
set_option linter.all false
namespace Go.Proofs.YtgbfedgghjcdcaaGreatDoor
open Go.RowKit
set_option maxRecDepth 100000
end Go.Proofs.YtgbfedgghjcdcaaGreatDoor
