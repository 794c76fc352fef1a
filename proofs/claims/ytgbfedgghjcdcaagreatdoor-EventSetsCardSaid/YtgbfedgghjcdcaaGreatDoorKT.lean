/- Law 32: EventSets, its arguments opened. No condition. -/
import Derived.Test.YtgbfedgghjcdcaaGreatDoorTQ
import Derived.Test.YtgbfedgghjcdcaaGreatDoorKTA
import Derived.Test.YtgbfedgghjcdcaaGreatDoorEF0
namespace Go.Proofs.YtgbfedgghjcdcaaGreatDoor
set_option linter.unusedSimpArgs false
set_option linter.unusedVariables false
set_option linter.unusedSectionVars false
open Go.RowKit
set_option maxRecDepth 100000
theorem law_sets_all (xs : List AV) (h : Args Tryz.prog 8 Tryz.f8.params.toList xs) : Cl cfg 8 (xs.map .t) [] (.t (.bool true)) [] := by
  rw [Tryz.params8] at h
  obtain ⟨x0, _, rfl, h0, x1, _, rfl, h1, x2, _, rfl, h2, rfl⟩ := h
  obtain ⟨l, rfl, hl, hp⟩ := arg_evs h0
  obtain ⟨c, rfl, hc⟩ := arg_ints h1
  obtain ⟨m, rfl⟩ := arg_int h2
  exact law_sets l c m hl hp hc
end Go.Proofs.YtgbfedgghjcdcaaGreatDoor
