/- Law 32: EventForms, its arguments opened. No condition. -/
import Derived.Test.YtgbfedgghjcdcaaGreatDoorNJ
namespace Go.Proofs.YtgbfedgghjcdcaaGreatDoor
set_option linter.unusedSimpArgs false
set_option linter.unusedVariables false
set_option linter.unusedSectionVars false
open Go.RowKit
set_option maxRecDepth 100000
theorem law_forms_all (xs : List AV) (h : Args Tryz.prog 12 Tryz.f3.params.toList xs) : Cl cfg 3 (xs.map .t) [] (.t (.bool true)) [] := by
  rw [Tryz.params3] at h
  obtain ⟨x0, _, rfl, h0, x1, _, rfl, h1, x2, _, rfl, h2, x3, _, rfl, h3, rfl⟩ := h
  obtain ⟨m, rfl, hm⟩ := arg_model h0
  obtain ⟨n, rfl⟩ := arg_int h1
  obtain ⟨a, rfl, ha⟩ := arg_event h2
  obtain ⟨b, rfl, hb⟩ := arg_event h3
  exact law_forms hm hm.eff n a b (by omega) (by omega)
end Go.Proofs.YtgbfedgghjcdcaaGreatDoor
