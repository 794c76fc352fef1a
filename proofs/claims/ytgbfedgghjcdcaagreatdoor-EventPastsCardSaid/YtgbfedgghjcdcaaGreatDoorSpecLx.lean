/- The tokens of texts, in plain Lean, as the reference reads them. No condition. -/
import Derived.Test.YtgbfedgghjcdcaaGreatDoorSpecP
namespace Go.Proofs.YtgbfedgghjcdcaaGreatDoor
set_option linter.unusedSimpArgs false
set_option linter.unusedVariables false
set_option linter.unusedSectionVars false

structure Tok where
  kind : Int
  frm : Nat
  at_ : Nat
  end_ : Nat
/-! steps from byte to byte -/
section
variable {α : Type} {l : List α} {q : Nat} {x : α}
theorem drop_get (h : l[q]? = some x) : l.drop q = x :: l.drop (q + 1) := by
  obtain ⟨hl, rfl⟩ := List.getElem?_eq_some_iff.1 h
  exact List.drop_eq_getElem_cons hl
theorem drop_end (h : l.length ≤ q) : l.drop q = [] := List.drop_of_length_le h
end
section
variable {l : List UInt8} {q : Nat} {b : UInt8}
end
section
variable {S : List (List UInt8)} {k : Nat} {s t : List UInt8}
end
end Go.Proofs.YtgbfedgghjcdcaaGreatDoor
