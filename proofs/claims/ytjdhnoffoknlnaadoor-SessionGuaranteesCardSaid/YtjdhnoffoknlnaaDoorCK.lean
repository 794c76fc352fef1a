/- What the claims of this seat share: the settled program's closed facts, the listed table. Conditions: the form's own reach. -/
import Derived.Test.YtjdhnoffoknlnaaDoorWQ
import Derived.Test.YtjdhnoffoknlnaaDoorCards
import Derived.Test.YtjdhnoffoknlnaaDoorTie
namespace Go.Proofs.YtjdhnoffoknlnaaDoor
set_option linter.unusedSimpArgs false
set_option linter.unusedVariables false
set_option linter.unusedSectionVars false
open Go.ChangeShapes Go.WideShapes Go.ChangeAt Go.RowKit

theorem own : ownKnob Tryd.prog.godebug = none := by kernel_rfl
theorem gTabType : (Tryd.prog.globals[0]?).map (·.type) = some 124 := by kernel_rfl
theorem cellsTab : Tryd.prog.cellsOf 124 = 20 := by kernel_rfl
theorem cellsU64 : Tryd.prog.cellsOf 114 = 1 := by kernel_rfl
theorem tab_of_laid {W : World} {l : List (String × DataW Unit)} (hl : (l.filter fun x => x.1 == "internal/strconv.uint64pow10") = [("internal/strconv.uint64pow10", Rows.laid_internal_strconv_uint64pow10)]) (h : laidMetH Tryd.prog l W) : Tab W := by
  have h1 := laidMetH.filter (fun x => x.1 == "internal/strconv.uint64pow10") h
  rw [hl] at h1
  exact Lib.tabIs_of_head (rest := []) gTab gTabType Tryd.underlying124 Tryd.underlying114 cellsU64 cellsTab h1
end Go.Proofs.YtjdhnoffoknlnaaDoor
