/- Law 40: SharesStarts: the law's function answers true. No condition. -/
import Derived.Test.YtcgdbhlnkificaaGreatDoorUH
set_option linter.all false
namespace Go.Proofs.YtcgdbhlnkificaaGreatDoor
open Go.RowKit
set_option maxRecDepth 100000
set_option maxHeartbeats 32000000
end Go.Proofs.YtcgdbhlnkificaaGreatDoor
