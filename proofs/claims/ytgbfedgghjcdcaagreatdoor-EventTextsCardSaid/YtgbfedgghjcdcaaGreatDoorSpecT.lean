/- The text of a clock, in plain Lean. No condition. -/
import Derived.Test.YtgbfedgghjcdcaaGreatDoorSpec2
import Derived.Lib.ItoaNum
import Derived.Lib.Join
namespace Go.Proofs.YtgbfedgghjcdcaaGreatDoor
set_option linter.unusedSimpArgs false
set_option linter.unusedVariables false
set_option linter.unusedSectionVars false
open Go
def numsT (xs : List Int) : List UInt8 := Lib.join (xs.map Lib.itoa) [32]
def fmtS (xs : List Int) : List UInt8 := if validB xs then 91 :: (numsT xs ++ [93]) else []
theorem nDigits_le : ∀ (k u : Nat), 1 ≤ k → u < 10 ^ k → Lib.nDigits u ≤ k
  | 0, _, h, _ => by omega
  | k + 1, u, _, h => by
    by_cases hu : u < 10
    · rw [Lib.nDigits_small hu]; omega
    · rw [Lib.nDigits_big hu]
      cases k with
      | zero => simp at h; omega
      | succ k =>
        have := nDigits_le (k + 1) (u / 10) (by omega) (by rw [Nat.pow_succ] at h; omega)
        omega
theorem itoa_len {n : Int} (h0 : 0 ≤ n) (h1 : n ≤ 1024) : (Lib.itoa n).length ≤ 4 := by
  rw [Lib.itoa, if_neg (by omega), Lib.decDigits_length]
  exact nDigits_le 4 _ (by omega) (by omega)
theorem lens_le : ∀ (l : List (List UInt8)), (∀ x ∈ l, x.length ≤ 4) → Lib.lens l ≤ 4 * l.length
  | [], _ => by simp [Lib.lens]
  | x :: l, h => by
    have h1 := lens_le l (fun y hy => h y (by simp [hy]))
    have h2 := h x (by simp)
    simp only [Lib.lens, List.map_cons, List.sum_cons, List.length_cons] at h1 ⊢
    omega
theorem numsT_len {xs : List Int} (h : xs.all ok1 = true) : (numsT xs).length ≤ 5 * xs.length := by
  cases xs with
  | nil => simp [numsT, Lib.join_nil]
  | cons x t =>
    have hl : ∀ y ∈ (x :: t).map Lib.itoa, y.length ≤ 4 := by
      intro y hy; rw [List.mem_map] at hy; obtain ⟨n, hn, rfl⟩ := hy
      rw [List.all_eq_true] at h
      exact itoa_len (ok1_of (h n hn)).1 (ok1_of (h n hn)).2
    have h2 := lens_le _ hl
    rw [numsT, List.map_cons, Lib.join_length]
    simp only [List.map_cons, List.length_cons, List.length_map, List.length_nil] at h2 ⊢
    omega
theorem numsT_snoc {xs : List Int} {k : Nat} {n : Int} (h : xs[k]? = some n) : numsT (xs.take (k + 1)) = numsT (xs.take k) ++ ((if k = 0 then [] else [32]) ++ Lib.itoa n) := by
  cases xs with
  | nil => simp at h
  | cons x t =>
    cases k with
    | zero => simp at h; subst h; simp [numsT, Lib.join_nil, Lib.join_one]
    | succ k =>
      have ht : (t.map Lib.itoa)[k]? = some (Lib.itoa n) := by
        rw [List.getElem?_map]; simp at h; rw [h]; rfl
      simp only [numsT, List.take_succ_cons, List.map_cons, Lib.join_cons, List.map_take]
      rw [Lib.joinTail_take_succ _ _ _ _ ht]
      simp
end Go.Proofs.YtgbfedgghjcdcaaGreatDoor
