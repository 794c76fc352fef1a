/- Law 32: EventTexts, its arguments opened. No condition. -/
import Derived.Test.YtgbfedgghjcdcaaGreatDoorEHz
import Derived.Test.YtgbfedgghjcdcaaGreatDoorEF0
namespace Go.Proofs.YtgbfedgghjcdcaaGreatDoor
set_option linter.unusedSimpArgs false
set_option linter.unusedVariables false
set_option linter.unusedSectionVars false
open Go.RowKit
set_option maxRecDepth 100000
theorem law_texts_all (xs : List AV) (h : Args Tryz.prog 8 Tryz.f4.params.toList xs) : Cl cfg 4 (xs.map .t) [] (.t (.bool true)) [] := by
  rw [Tryz.params4] at h
  obtain ⟨x0, _, rfl, h0, x1, _, rfl, h1, rfl⟩ := h
  obtain ⟨e, rfl, hp⟩ := arg_event h0
  obtain ⟨s, rfl⟩ := arg_str h1
  exact law_texts e s hp
end Go.Proofs.YtgbfedgghjcdcaaGreatDoor
