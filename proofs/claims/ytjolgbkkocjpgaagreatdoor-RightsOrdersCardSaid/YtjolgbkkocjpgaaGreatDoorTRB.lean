/- Models and plans that are small,as contracts. No condition. -/
import Derived.Test.YtjolgbkkocjpgaaGreatDoorRPA
import Derived.Test.YtjolgbkkocjpgaaGreatDoorLPC
set_option linter.defProp false
set_option linter.unusedSimpArgs false
set_option linter.unusedVariables false
set_option linter.unusedSectionVars false
namespace Go.Proofs.YtjolgbkkocjpgaaGreatDoor
open Go.RowKit
set_option maxRecDepth 100000
set_option maxHeartbeats 32000000
def Fl(m:Md):Prop:=m.ak.length<=8/\m.tables.length<=6/\m.bw.length<=20/\m.cons.length<=60/\m.ops.length<=8/\m.ay.length<=30/\m.aI.length<=12
instance (m:Md):Decidable (Fl m):=by unfold Fl;infer_instance
end Go.Proofs.YtjolgbkkocjpgaaGreatDoor
