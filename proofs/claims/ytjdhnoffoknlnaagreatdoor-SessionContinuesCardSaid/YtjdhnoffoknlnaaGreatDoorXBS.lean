/- Law 52: SessionAcknowledges. No condition. -/
import Derived.Test.YtjdhnoffoknlnaaGreatDoorXA
import Derived.Test.YtjdhnoffoknlnaaGreatDoorTD
set_option linter.unusedSimpArgs false
set_option linter.unusedVariables false
set_option linter.unusedSectionVars false
namespace Go.Proofs.YtjdhnoffoknlnaaGreatDoor
open Go.RowKit
set_option maxRecDepth 100000
set_option maxHeartbeats 8000000
theorem awakeZ_c:Cl cfg 7 [] [] (.t (.bool true)) []:=⟨40,by kernel_rfl⟩
end Go.Proofs.YtjdhnoffoknlnaaGreatDoor
