/- Law 52: texts of clocks,any text: the code's reading,the. No condition. -/
import Derived.Test.YtgbfedgghjcdcaaGreatDoorXA
import Derived.Test.YtgbfedgghjcdcaaGreatDoorTD
import Derived.Test.YtgbfedgghjcdcaaGreatDoorTW
import Derived.Test.YtgbfedgghjcdcaaGreatDoorWA
set_option linter.all false
namespace Go.Proofs.YtgbfedgghjcdcaaGreatDoor
open Go.RowKit
set_option maxRecDepth 100000
set_option maxHeartbeats 8000000
set_option maxHeartbeats 16000000
def qh:Cl ap 10 [] [] (.t (.bool true)) []:=⟨60,by kernel_rfl⟩
end Go.Proofs.YtgbfedgghjcdcaaGreatDoor
