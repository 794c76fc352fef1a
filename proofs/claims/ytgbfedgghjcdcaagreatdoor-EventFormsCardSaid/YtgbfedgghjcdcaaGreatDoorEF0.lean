/- Law 32: arguments opened. No condition. -/
import Derived.Test.YtgbfedgghjcdcaaGreatDoorCKV
namespace Go.Proofs.YtgbfedgghjcdcaaGreatDoor
set_option linter.unusedSimpArgs false
set_option linter.unusedVariables false
set_option linter.unusedSectionVars false
open Go.RowKit
set_option maxRecDepth 100000
theorem arg_event {m : Nat} {x : AV} (h : Arg Tryz.prog (m + 4) 36 x) : ∃ e : Ev, x = evA e ∧ e.past.length ≤ 17592186044416 := by
  obtain ⟨xs, h1, h2⟩ := h
  obtain ⟨e, rfl, hp⟩ := shp_event h1
  simp only [Tryz.underlying36] at h2
  exact ⟨e, h2, hp⟩
end Go.Proofs.YtgbfedgghjcdcaaGreatDoor
