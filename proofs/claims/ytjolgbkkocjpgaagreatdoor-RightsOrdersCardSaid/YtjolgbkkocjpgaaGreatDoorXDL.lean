/- slices.Delete of three kinds of elements: the walks. No condition. -/
import Derived.Test.YtjolgbkkocjpgaaGreatDoorVSD
import Derived.Shelf.RegionOpenPlain
import Derived.Deep.RegionLaw
set_option linter.defProp false
set_option linter.unusedSimpArgs false
set_option linter.unusedVariables false
set_option linter.unusedSectionVars false
namespace Go.Proofs.YtjolgbkkocjpgaaGreatDoor
open Go.RowKit
set_option maxRecDepth 100000
set_option maxHeartbeats 4000000
end Go.Proofs.YtjolgbkkocjpgaaGreatDoor
