/- Models and plans that are small. No condition. -/
import Derived.Test.YtjolgbkkocjpgaaGreatDoorTRB
import Derived.Test.YtjolgbkkocjpgaaGreatDoorTLQ
set_option linter.all false
namespace Go.Proofs.YtjolgbkkocjpgaaGreatDoor
open Go.RowKit
set_option maxRecDepth 100000
set_option maxHeartbeats 32000000
structure Sd (m:Md) (p:Pln):Prop where
 ao:p.ao.length<=60
 aD:p.aD.length<=70
 places:p.places.length<=60
 bh:p.bh.length<=60
 mem:∀L∈p.aD,L.mem.length<=60
 ops:m.ops.length<=8
 au:m.au.length<=12
def mj(m:Md):Prop:=∀a∈m.au,a.eff.delta.length<=1000000
end Go.Proofs.YtjolgbkkocjpgaaGreatDoor
