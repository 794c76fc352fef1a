/- Law 52: SessionAcknowledges, its arguments opened. No condition. -/
import Derived.Test.YtjdhnoffoknlnaaGreatDoorXC
import Derived.Test.YtjdhnoffoknlnaaGreatDoorCKV
namespace Go.Proofs.YtjdhnoffoknlnaaGreatDoor
set_option linter.unusedSimpArgs false
set_option linter.unusedVariables false
set_option linter.unusedSectionVars false
open Go.RowKit
set_option maxRecDepth 100000
theorem law_acks_all (xs : List AV) (h : Args Tryz.prog 8 Tryz.f6.params.toList xs) : Cl cfg 6 (xs.map .t) [] (.t (.bool true)) [] := by
  rw [Tryz.params6] at h
  obtain ⟨x0, _, rfl, h0, x1, _, rfl, h1, rfl⟩ := h
  obtain ⟨c, rfl, hcl⟩ := arg_ints h0
  obtain ⟨l, rfl, hl, hc⟩ := arg_acts h1
  exact law_acks c l hcl hl hc
end Go.Proofs.YtjdhnoffoknlnaaGreatDoor
