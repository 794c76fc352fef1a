/- The order of events, in plain Lean; sorting by blocks. No condition. -/
import Derived.Test.YtgbfedgghjcdcaaGreatDoorSpecO
import Derived.Test.YtgbfedgghjcdcaaGreatDoorSpecE
namespace Go.Proofs.YtgbfedgghjcdcaaGreatDoor
set_option linter.unusedSimpArgs false
set_option linter.unusedVariables false
set_option linter.unusedSectionVars false

def sg (a b : Int) : Int := if a < b then -1 else if b < a then 1 else 0
def orS : List Int → Int
  | [] => 0
  | x :: l => if x = 0 then orS l else x
def cmpE (a b : Ev) : Int := orS [sg a.t b.t, sg a.r b.r, sg a.n b.n]
def ltE (a b : Ev) : Bool := if a.t = b.t then (if a.r = b.r then decide (a.n < b.n) else decide (a.r < b.r)) else decide (a.t < b.t)
theorem cmpE_lt (a b : Ev) : cmpE a b < 0 ↔ ltE a b = true := by
  unfold cmpE ltE sg orS orS orS orS
  repeat' split
  all_goals (simp; try omega)
theorem ltE_f {a b : Ev} : ltE a b = false ↔ b.t < a.t ∨ (a.t = b.t ∧ (b.r < a.r ∨ (a.r = b.r ∧ b.n ≤ a.n))) := by
  unfold ltE
  split
  · split
    · simp; omega
    · simp; omega
  · simp; omega
theorem ltE_t {a b : Ev} : ltE a b = true ↔ a.t < b.t ∨ (a.t = b.t ∧ (a.r < b.r ∨ (a.r = b.r ∧ a.n < b.n))) := by
  rw [← Bool.not_eq_false, ltE_f]
  omega
theorem ltE_ord : Ordr ltE where
  asym := fun a b h => by
    rw [ltE_t] at h
    rw [ltE_f]
    omega
  ntr := fun a b c h1 h2 => by
    rw [ltE_f] at *
    omega
section
variable {α : Type} (lt : α → α → Bool)
end
/-! exchanging parts -/
section
variable {α : Type}
theorem set_at (P : List α) (x y : α) (R : List α) {k : Nat} (h : k = P.length) : (P ++ x :: R).set k y = P ++ y :: R := by
  subst h
  simp
theorem get_at (P : List α) (x : α) (R : List α) {k : Nat} (h : k = P.length) : (P ++ x :: R)[k]? = some x := by
  subst h
  simp
end
end Go.Proofs.YtgbfedgghjcdcaaGreatDoor
