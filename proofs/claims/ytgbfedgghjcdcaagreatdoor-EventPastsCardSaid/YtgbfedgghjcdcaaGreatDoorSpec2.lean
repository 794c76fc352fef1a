/- More plain functions that the clocks' texts compute, with no program in sight. No condition. -/
import Derived.Test.YtgbfedgghjcdcaaGreatDoorSpec
namespace Go.Proofs.YtgbfedgghjcdcaaGreatDoor
set_option linter.unusedSimpArgs false
set_option linter.unusedVariables false
set_option linter.unusedSectionVars false
def sumL (xs : List Int) : Int := xs.foldl (· + ·) 0
def countS (xs : List Int) : Int := if validB xs then sumL xs else 0
def hasS (c : List Int) (r n : Int) : Bool := validB c && (decide (0 ≤ r) && (decide (r < c.length) && (decide (1 ≤ n) && decide (n ≤ c.getD r.toNat 0))))
theorem ok1_of {n : Int} (h : ok1 n = true) : 0 ≤ n ∧ n ≤ 1024 := by simp [ok1] at h; omega
theorem ok1_at {xs : List Int} (h : validB xs = true) {k : Nat} {n : Int} (hn : xs[k]? = some n) : 0 ≤ n ∧ n ≤ 1024 := by
  simp only [validB, Bool.and_eq_true, List.all_eq_true] at h
  exact ok1_of (h.1.1 n (List.mem_of_getElem? hn))
/-- A span: its replica, its first and its last number. -/
structure Sp where
  r : Int
  f : Int
  t : Int
deriving DecidableEq
theorem getD_get {xs : List Int} {k : Nat} {n : Int} (h : xs[k]? = some n) : xs.getD k 0 = n := by rw [List.getD_eq_getElem?_getD, h]; rfl
end Go.Proofs.YtgbfedgghjcdcaaGreatDoor
