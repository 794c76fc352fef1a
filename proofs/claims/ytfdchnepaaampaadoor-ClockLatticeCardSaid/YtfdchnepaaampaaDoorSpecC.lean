/- Plain laws of clocks: Compare of the code and of the reference agree; the lattice. No condition. -/
import Derived.Test.YtfdchnepaaampaaDoorSpec3
namespace Go.Proofs.YtfdchnepaaampaaDoor
set_option linter.unusedSimpArgs false
set_option linter.unusedVariables false
set_option linter.unusedSectionVars false
theorem inside_iff {a b : List Int} (hl : a.length = b.length) : insideB a b = true ↔ ∀ (k : Nat) (x y : Int), a[k]? = some x → b[k]? = some y → x ≤ y := by
  rw [insideB, List.all_eq_true]
  constructor
  · intro h k x y hx hy
    have := h (x, y) (List.mem_of_getElem? (zip_get hx hy))
    simpa [le2] using this
  · intro h p hp
    obtain ⟨k, hk, hkp⟩ := List.mem_iff_getElem.1 hp
    have hz : (a.zip b)[k]? = some p := by rw [List.getElem?_eq_getElem hk, hkp]
    rw [List.getElem?_zip_eq_some] at hz
    simpa [le2] using h k p.1 p.2 hz.1 hz.2
theorem inside_refl (a : List Int) : insideB a a = true := (inside_iff rfl).2 fun k x y hx hy => by rw [hx] at hy; cases hy; exact Int.le_refl _
theorem inside_antisymm {a b : List Int} (hl : a.length = b.length) (h1 : insideB a b = true) (h2 : insideB b a = true) : a = b := by
  apply List.ext_getElem?
  intro k
  cases hx : a[k]? with
  | none =>
    rw [List.getElem?_eq_none_iff] at hx
    symm; rw [List.getElem?_eq_none_iff]; omega
  | some x =>
    have hk := (List.getElem?_eq_some_iff.1 hx).1
    have hy : b[k]? = some (b[k]'(by omega)) := List.getElem?_eq_getElem (by omega)
    rw [hy]
    have e1 := (inside_iff hl).1 h1 k x _ hx hy
    have e2 := (inside_iff hl.symm).1 h2 k _ x hy hx
    congr 1; omega
theorem compare_eq (a b : List Int) : compareS a b = rcompareS a b := by
  unfold compareS rcompareS
  by_cases ha : alikeB [a, b] = true
  · rw [if_pos ha, if_pos ha]
    have hl := alike_len ha
    by_cases hab : a = b
    · subst hab
      simp [inside_refl]
    · have hne : (a == b) = false := by simpa using hab
      rw [hne]
      by_cases h1 : insideB a b = true
      · have h2 : insideB b a = false := by
          cases h : insideB b a with
          | false => rfl
          | true => exact absurd (inside_antisymm hl h1 h) hab
        simp [h1, h2]
      · simp [h1]
  · rw [if_neg ha, if_neg ha]

/-! Advance -/
theorem valid_set {xs : List Int} (hv : validB xs = true) (k : Nat) {n : Int} (hn : ok1 n = true) : validB (xs.set k n) = true := by
  simp only [validB, Bool.and_eq_true, decide_eq_true_eq] at hv ⊢
  exact ⟨⟨okall_set hv.1.1 k hn, by rw [List.length_set]; exact hv.1.2⟩, by rw [List.length_set]; exact hv.2⟩
theorem get_set_same {xs : List Int} {k : Nat} {x n : Int} (hx : xs[k]? = some x) : (xs.set k n)[k]? = some n := by
  rw [List.getElem?_set_self (List.getElem?_eq_some_iff.1 hx).1]
theorem get_set_other {xs : List Int} {k j : Nat} {n : Int} (hj : j ≠ k) : (xs.set k n)[j]? = xs[j]? := List.getElem?_set_ne (Ne.symm hj)
theorem adv_cases (xs : List Int) (r : Int) : (∃ e, advS xs r = ([], 0, 0, e) ∧ e ≠ 0) ∨
    ∃ (k : Nat) (v : Int), r = (k : Int) ∧ validB xs = true ∧ k < xs.length ∧ xs[k]? = some v ∧ 0 ≤ v ∧ v < 1024 ∧ advS xs r = (xs.set k (v + 1), (k : Int), v + 1, 0) := by
  unfold advS
  by_cases hv : validB xs = true
  · rw [if_pos hv]
    by_cases h1 : r < 0 ∨ (xs.length : Int) ≤ r
    · rw [if_pos h1]; exact .inl ⟨2, rfl, by omega⟩
    · rw [if_neg h1]
      by_cases h2 : xs.getD r.toNat 0 = 1024
      · rw [if_pos h2]; exact .inl ⟨8, rfl, by omega⟩
      · rw [if_neg h2]
        obtain ⟨k, rfl⟩ := Int.eq_ofNat_of_zero_le (show 0 ≤ r by omega)
        have hk : k < xs.length := by omega
        have hx : xs[k]? = some xs[k] := List.getElem?_eq_getElem hk
        have hd := getD_get hx
        simp only [Int.toNat_natCast] at h2 ⊢
        have hb := ok1_at hv hx
        rw [hd] at h2 ⊢
        exact .inr ⟨k, xs[k], rfl, hv, hk, hx, hb.1, by omega, rfl⟩
  · rw [if_neg hv]; exact .inl ⟨1, rfl, by omega⟩
theorem alike_of {a b : List Int} (h1 : validB a = true) (h2 : validB b = true) (hl : b.length = a.length) : alikeB [a, b] = true := by
  simp [alikeB, al1, h1, h2, hl]
section
variable {xs : List Int} {k : Nat} {v : Int} (hv : validB xs = true) (hx : xs[k]? = some v) (h0 : 0 ≤ v) (h1 : v < 1024)
include hv hx h0 h1
theorem adv_valid : validB (xs.set k (v + 1)) = true := valid_set hv k (by simp [ok1]; omega)
theorem adv_cmp : compareS xs (xs.set k (v + 1)) = (1, 0) := by
  have ha : alikeB [xs, xs.set k (v + 1)] = true := alike_of hv (adv_valid hv hx h0 h1) (by simp)
  have e1 : insideB xs (xs.set k (v + 1)) = true := by
    rw [inside_iff (by simp)]
    intro j x y hj hy
    by_cases hjk : j = k
    · subst hjk
      rw [hx] at hj; rw [get_set_same hx] at hy
      cases hj; cases hy; omega
    · rw [get_set_other hjk, hj] at hy
      cases hy; omega
  have e2 : insideB (xs.set k (v + 1)) xs = false := by
    cases h : insideB (xs.set k (v + 1)) xs with
    | false => rfl
    | true =>
      have := (inside_iff (by simp)).1 h k (v + 1) v (get_set_same hx) hx
      omega
  simp [compareS, ha, e1, e2]
theorem adv_count : countS (xs.set k (v + 1)) = countS xs + 1 := by
  rw [countS, countS, if_pos hv, if_pos (adv_valid hv hx h0 h1)]
  have : ∀ (l : List Int) (j : Nat) (a b : Int), l[j]? = some a → ∀ s : Int, (l.set j b).foldl (· + ·) s = l.foldl (· + ·) s + (b - a) := by
    intro l
    induction l with
    | nil => intro j a b h; simp at h
    | cons x t ih =>
      intro j a b h s
      cases j with
      | zero =>
        simp at h; subst h
        have hs : ∀ (t : List Int) (p q : Int), t.foldl (· + ·) (p + q) = t.foldl (· + ·) p + q := by
          intro t
          induction t with
          | nil => intro p q; rfl
          | cons y t iht => intro p q; simp only [List.foldl_cons]; rw [show p + q + y = p + y + q by omega]; exact iht _ _
        simp only [List.set_cons_zero, List.foldl_cons]
        rw [show s + b = s + x + (b - x) by omega, hs]
      | succ j => simp only [List.set_cons_succ, List.foldl_cons]; exact ih j a b (by simpa using h) _
  rw [sumL, sumL, this xs k v (v + 1) hx]; omega
theorem adv_has : hasS (xs.set k (v + 1)) (k : Int) (v + 1) = true := by
  have hk := (List.getElem?_eq_some_iff.1 hx).1
  rw [hasS, adv_valid hv hx h0 h1]
  simp only [Int.toNat_natCast, getD_get (get_set_same hx), List.length_set]
  simp; omega
theorem adv_hasnt : hasS xs (k : Int) (v + 1) = false := by
  rw [hasS, hv]
  simp only [Int.toNat_natCast, getD_get hx]
  simp; omega
theorem adv_same {dr dn : Int} (hd : ¬ (dr = (k : Int) ∧ dn = v + 1)) : hasS xs dr dn = hasS (xs.set k (v + 1)) dr dn := by
  rw [hasS, hasS, hv, adv_valid hv hx h0 h1]
  rw [List.length_set]
  by_cases h2 : 0 ≤ dr ∧ dr < xs.length
  · obtain ⟨j, rfl⟩ := Int.eq_ofNat_of_zero_le h2.1
    simp only [Int.toNat_natCast]
    by_cases hjk : j = k
    · subst hjk
      simp only [getD_get hx, getD_get (get_set_same hx)]
      have : dn ≠ v + 1 := fun h => hd ⟨rfl, h⟩
      congr 3
      rw [Bool.eq_iff_iff]; simp; omega
    · have e : (xs.set k (v + 1)).getD j 0 = xs.getD j 0 := by rw [List.getD_eq_getElem?_getD, List.getD_eq_getElem?_getD, get_set_other hjk]
      simp only [e]
  · rcases (Classical.not_and_iff_not_or_not.1 h2) with h | h <;> simp [h]
end
end Go.Proofs.YtfdchnepaaampaaDoor
