/- Law 52: Parse of a clock's text. No condition. -/
import Derived.Test.YtgbfedgghjcdcaaGreatDoorWV
import Derived.Test.YtgbfedgghjcdcaaGreatDoorTS
set_option linter.all false
namespace Go.Proofs.YtgbfedgghjcdcaaGreatDoor
open Go.RowKit
set_option maxRecDepth 100000
set_option maxHeartbeats 4000000
end Go.Proofs.YtgbfedgghjcdcaaGreatDoor
