/- The plain functions that the clocks' texts compute, with no program in sight. No condition. -/
namespace Go.Proofs.YtgbfedgghjcdcaaGreatDoor
set_option linter.unusedSimpArgs false
set_option linter.unusedVariables false
set_option linter.unusedSectionVars false
def ok1 (n : Int) : Bool := decide (0 ≤ n) && decide (n ≤ 1024)
def validB (xs : List Int) : Bool := xs.all ok1 && decide (1 ≤ xs.length) && decide (xs.length ≤ 5)
theorem foldl_snoc {α β : Type} (g : β → α → β) (b : β) {l : List α} {k : Nat} {x : α} (h : l[k]? = some x) : (l.take (k + 1)).foldl g b = g ((l.take k).foldl g b) x := by
  rw [List.take_add_one, h]; simp [List.foldl_append]
end Go.Proofs.YtgbfedgghjcdcaaGreatDoor
