/- Models and plans that are small (2);what the reference's plans ask of actions,as contracts. No condition. -/
import Derived.Test.YtjolgbkkocjpgaaGreatDoorTRB
import Derived.Test.YtjolgbkkocjpgaaGreatDoorTLQ
set_option linter.defProp false
set_option linter.unusedSimpArgs false
set_option linter.unusedVariables false
set_option linter.unusedSectionVars false
namespace Go.Proofs.YtjolgbkkocjpgaaGreatDoor
open Go.RowKit
set_option maxRecDepth 100000
set_option maxHeartbeats 32000000
structure Qs (m:Md) (p:Pln):Prop where
 aw:p.aw.length<=60
 aR:p.aR.length<=70
 places:p.places.length<=60
 bI:p.bI.length<=60
 mem:∀L∈p.aR,L.mem.length<=60
 ops:m.ops.length<=8
 ay:m.ay.length<=12
end Go.Proofs.YtjolgbkkocjpgaaGreatDoor
