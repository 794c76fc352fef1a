/- Law 32: the chapter's example. No condition. -/
import Derived.Test.YtgbfedgghjcdcaaGreatDoorWA
namespace Go.Proofs.YtgbfedgghjcdcaaGreatDoor
set_option linter.unusedSimpArgs false
set_option linter.unusedVariables false
set_option linter.unusedSectionVars false
open Go.RowKit
set_option maxRecDepth 100000
set_option maxHeartbeats 16000000

theorem awake_c : Cl cfg 10 [] [] (.t (.bool true)) [] := ⟨60, by kernel_rfl⟩
end Go.Proofs.YtgbfedgghjcdcaaGreatDoor
