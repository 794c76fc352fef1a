/- The plain function of Add, span by span. No condition. -/
import Derived.Test.YtfdchnepaaampaaDoorSpec2
namespace Go.Proofs.YtfdchnepaaampaaDoor
set_option linter.unusedSimpArgs false
set_option linter.unusedVariables false
set_option linter.unusedSectionVars false
def addStep (out : List Int) (s : Sp) : List Int := out.set s.r.toNat (max (out.getD s.r.toNat 0) s.t)
theorem addL_good (n : Nat) : ∀ (l : List Sp) (c acc : List Int) (k : Nat) (s : Sp), addL n c (l.take k) = some acc → l[k]? = some s → badSp n acc s = false → addL n c (l.take (k + 1)) = some (addStep acc s)
  | [], c, acc, k, s, _, hs, _ => by simp at hs
  | x :: l, c, acc, 0, s, h, hs, hb => by
    simp [addL] at h hs; subst h; subst hs
    simp [addL, hb, addStep]
  | x :: l, c, acc, k + 1, s, h, hs, hb => by
    simp only [List.take_succ_cons, addL] at h ⊢
    by_cases hx : badSp n c x = true
    · rw [if_pos hx] at h; cases h
    · rw [if_neg hx] at h ⊢
      exact addL_good n l _ acc k s h (by simpa using hs) hb
theorem addL_bad (n : Nat) : ∀ (l : List Sp) (c acc : List Int) (k : Nat) (s : Sp), addL n c (l.take k) = some acc → l[k]? = some s → badSp n acc s = true → addL n c l = none
  | [], c, acc, k, s, _, hs, _ => by simp at hs
  | x :: l, c, acc, 0, s, h, hs, hb => by
    simp [addL] at h hs; subst h; subst hs
    simp [addL, hb]
  | x :: l, c, acc, k + 1, s, h, hs, hb => by
    simp only [List.take_succ_cons, addL] at h ⊢
    by_cases hx : badSp n c x = true
    · rw [if_pos hx]
    · rw [if_neg hx] at h ⊢
      exact addL_bad n l _ acc k s h (by simpa using hs) hb
theorem okall_at {xs : List Int} (h : xs.all ok1 = true) {k : Nat} {n : Int} (hn : xs[k]? = some n) : 0 ≤ n ∧ n ≤ 1024 := by
  rw [List.all_eq_true] at h; exact ok1_of (h n (List.mem_of_getElem? hn))
theorem okall_set {xs : List Int} (h : xs.all ok1 = true) (k : Nat) {n : Int} (hn : ok1 n = true) : (xs.set k n).all ok1 = true := by
  rw [List.all_eq_true] at h ⊢
  intro x hx
  rcases List.mem_or_eq_of_mem_set hx with h1 | h1
  · exact h x h1
  · rw [h1]; exact hn
end Go.Proofs.YtfdchnepaaampaaDoor
