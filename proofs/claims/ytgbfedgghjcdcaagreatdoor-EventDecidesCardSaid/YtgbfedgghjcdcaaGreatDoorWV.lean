/- Law 52: the texts of clocks. No condition. -/
import Derived.Test.YtgbfedgghjcdcaaGreatDoorTW
import Derived.Test.YtgbfedgghjcdcaaGreatDoorTS
set_option linter.all false
namespace Go.Proofs.YtgbfedgghjcdcaaGreatDoor
open Go.RowKit
set_option maxRecDepth 100000
set_option maxHeartbeats 4000000
def bs(l:List UInt8):ByteArray:=⟨l.toArray⟩
def kT(l:List UInt8):(bs l).size=l.length:=by simp[bs,ByteArray.size]
end Go.Proofs.YtgbfedgghjcdcaaGreatDoor
