/- Models and plans that are small,as contracts. No condition. -/
import Derived.Test.YtcgdbhlnkificaaGreatDoorRPA
import Derived.Test.YtcgdbhlnkificaaGreatDoorLPC
set_option linter.all false
namespace Go.Proofs.YtcgdbhlnkificaaGreatDoor
open Go.RowKit
set_option maxRecDepth 100000
set_option maxHeartbeats 32000000
def Bv(m:Md):Prop:=m.ao.length<=8/\m.tables.length<=6/\m.bH.length<=20/\m.cons.length<=60/\m.ops.length<=8/\m.ax.length<=30/\m.aG.length<=12
instance (m:Md):Decidable (Bv m):=by unfold Bv;infer_instance
end Go.Proofs.YtcgdbhlnkificaaGreatDoor
