/- Models and plans that are small. No condition. -/
import Derived.Test.YtcgdbhlnkificaaGreatDoorTRB
import Derived.Test.YtcgdbhlnkificaaGreatDoorTLQ
set_option linter.all false
namespace Go.Proofs.YtcgdbhlnkificaaGreatDoor
open Go.RowKit
set_option maxRecDepth 100000
set_option maxHeartbeats 32000000
structure QK (m:Md) (p:Pln):Prop where
 aM:p.aM.length<=60
 aA:p.aA.length<=70
 places:p.places.length<=60
 bj:p.bj.length<=60
 mem:∀L∈p.aA,L.mem.length<=60
 ops:m.ops.length<=8
 ax:m.ax.length<=12
def Q3(m:Md):Prop:=∀a∈m.ax,a.eff.delta.length<=1000000
end Go.Proofs.YtcgdbhlnkificaaGreatDoor
