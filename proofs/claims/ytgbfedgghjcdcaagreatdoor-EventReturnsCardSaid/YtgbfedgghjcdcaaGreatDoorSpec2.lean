/- More plain functions that the clocks' texts compute, with no program in sight. No condition. -/
import Derived.Test.YtgbfedgghjcdcaaGreatDoorSpec
namespace Go.Proofs.YtgbfedgghjcdcaaGreatDoor
set_option linter.unusedSimpArgs false
set_option linter.unusedVariables false
set_option linter.unusedSectionVars false
def sumL (xs : List Int) : Int := xs.foldl (· + ·) 0
def countS (xs : List Int) : Int := if validB xs then sumL xs else 0
def hasS (c : List Int) (r n : Int) : Bool := validB c && (decide (0 ≤ r) && (decide (r < c.length) && (decide (1 ≤ n) && decide (n ≤ c.getD r.toNat 0))))
def fewB (l : List (List Int)) : Bool := l.all (fun c => decide (c.length ≤ 8)) && decide (l.length ≤ 8)
theorem sum_snoc {xs : List Int} {k : Nat} {n : Int} (h : xs[k]? = some n) : sumL (xs.take (k + 1)) = sumL (xs.take k) + n := foldl_snoc _ _ h
theorem ok1_of {n : Int} (h : ok1 n = true) : 0 ≤ n ∧ n ≤ 1024 := by simp [ok1] at h; omega
theorem ok1_at {xs : List Int} (h : validB xs = true) {k : Nat} {n : Int} (hn : xs[k]? = some n) : 0 ≤ n ∧ n ≤ 1024 := by
  simp only [validB, Bool.and_eq_true, List.all_eq_true] at h
  exact ok1_of (h.1.1 n (List.mem_of_getElem? hn))
/-- A span: its replica, its first and its last number. -/
structure Sp where
  r : Int
  f : Int
  t : Int
deriving DecidableEq
def missL (a b : List Int) : Nat → List Sp
  | 0 => []
  | k + 1 => missL a b k ++ (if a.getD k 0 < b.getD k 0 then [⟨k, a.getD k 0 + 1, b.getD k 0⟩] else [])
def missS (a b : List Int) : List Sp := if alikeB [a, b] then missL a b a.length else []
def badSp (n : Nat) (out : List Int) (s : Sp) : Bool := decide (s.r < 0) || (decide ((n : Int) ≤ s.r) || (decide (s.f < 1) || (decide (s.t < s.f) || (decide (1024 < s.t) || decide (out.getD s.r.toNat 0 + 1 < s.f)))))
def addL (n : Nat) : List Int → List Sp → Option (List Int)
  | out, [] => some out
  | out, s :: l => if badSp n out s then none else addL n (out.set s.r.toNat (max (out.getD s.r.toNat 0) s.t)) l
def addS (c : List Int) (l : List Sp) : List Int × Int := if validB c then (match addL c.length c l with | some o => (o, 0) | none => ([], 2)) else ([], 1)
def advS (c : List Int) (r : Int) : List Int × Int × Int × Int :=
  if validB c then (if r < 0 ∨ (c.length : Int) ≤ r then ([], 0, 0, 2) else if c.getD r.toNat 0 = 1024 then ([], 0, 0, 8) else (c.set r.toNat (c.getD r.toNat 0 + 1), r, c.getD r.toNat 0 + 1, 0)) else ([], 0, 0, 1)
theorem getD_get {xs : List Int} {k : Nat} {n : Int} (h : xs[k]? = some n) : xs.getD k 0 = n := by rw [List.getD_eq_getElem?_getD, h]; rfl
end Go.Proofs.YtgbfedgghjcdcaaGreatDoor
