/- Law 32: EventSums. No condition. -/
import Derived.Test.YtgbfedgghjcdcaaGreatDoorOI
import Derived.Test.YtgbfedgghjcdcaaGreatDoorTKC
import Derived.Test.YtgbfedgghjcdcaaGreatDoorNK
set_option linter.all false
namespace Go.Proofs.YtgbfedgghjcdcaaGreatDoor
open Go.RowKit
set_option maxRecDepth 100000
set_option maxHeartbeats 32000000
section
variable {g:Cfg} {d:Option (List Nat)} {i:Nat} {env:Env} {fr:Fr}
end
end Go.Proofs.YtgbfedgghjcdcaaGreatDoor
