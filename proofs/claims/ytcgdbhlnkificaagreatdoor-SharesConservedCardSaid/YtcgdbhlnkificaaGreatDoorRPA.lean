/- The reference's plans: when they are valid,as contracts. No condition. -/
import Derived.Test.YtcgdbhlnkificaaGreatDoorTLP
import Derived.Test.YtcgdbhlnkificaaGreatDoorTNF
set_option linter.all false
namespace Go.Proofs.YtcgdbhlnkificaaGreatDoor
open Go.RowKit
set_option maxRecDepth 100000
set_option maxHeartbeats 32000000
end Go.Proofs.YtcgdbhlnkificaaGreatDoor
