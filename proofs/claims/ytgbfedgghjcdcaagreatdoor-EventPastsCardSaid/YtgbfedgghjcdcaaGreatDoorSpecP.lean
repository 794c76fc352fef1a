/- The texts of clocks: how they are read, in plain Lean. No condition. -/
import Derived.Test.YtgbfedgghjcdcaaGreatDoorSpecT
import Derived.Lib.AtoiTie
import Derived.Lib.SplitLaws
import Derived.Lib.Split
import Derived.Lib.Strings
namespace Go.Proofs.YtgbfedgghjcdcaaGreatDoor
set_option linter.unusedSimpArgs false
set_option linter.unusedVariables false
set_option linter.unusedSectionVars false
open Go

/-! The code's reading. -/
end Go.Proofs.YtgbfedgghjcdcaaGreatDoor
