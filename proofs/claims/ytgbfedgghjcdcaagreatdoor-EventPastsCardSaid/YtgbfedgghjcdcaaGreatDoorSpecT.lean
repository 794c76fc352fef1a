/- The text of a clock, in plain Lean. No condition. -/
import Derived.Test.YtgbfedgghjcdcaaGreatDoorSpec2
import Derived.Lib.ItoaNum
import Derived.Lib.Join
namespace Go.Proofs.YtgbfedgghjcdcaaGreatDoor
set_option linter.unusedSimpArgs false
set_option linter.unusedVariables false
set_option linter.unusedSectionVars false
open Go
end Go.Proofs.YtgbfedgghjcdcaaGreatDoor
