/- Plain laws of clocks: what is missing, added, gives the join; the spans hold just the events that one clock has and the other one has not. No condition. -/
import Derived.Test.YtfdchnepaaampaaDoorSpecL
namespace Go.Proofs.YtfdchnepaaampaaDoor
set_option linter.unusedSimpArgs false
set_option linter.unusedVariables false
set_option linter.unusedSectionVars false
theorem addL_snoc {n : Nat} {c acc : List Int} {l : List Sp} {s : Sp} (h : addL n c l = some acc) (hb : badSp n acc s = false) : addL n c (l ++ [s]) = some (addStep acc s) := by
  have h1 := addL_good n (l ++ [s]) c acc l.length s (by rw [List.take_left]; exact h) (by simp) hb
  rwa [List.take_of_length_le (by simp)] at h1
def inSp (dr dn : Int) (s : Sp) : Bool := decide (s.r = dr) && (decide (s.f ≤ dn) && decide (dn ≤ s.t))
def lenSp (s : Sp) : Int := s.t - s.f + 1
def lens (l : List Sp) : Int := l.foldl (fun c s => c + lenSp s) 0
theorem lens_snoc (l : List Sp) (s : Sp) : lens (l ++ [s]) = lens l + lenSp s := by simp [lens]
section
variable {a b : List Int} (ha : validB a = true) (hb : validB b = true) (hl : a.length = b.length)
include ha hb hl
theorem miss_at {k : Nat} (hk : k < a.length) : ∃ x y, a[k]? = some x ∧ b[k]? = some y ∧ 0 ≤ x ∧ x ≤ 1024 ∧ 0 ≤ y ∧ y ≤ 1024 ∧ missL a b (k + 1) = missL a b k ++ (if x < y then [⟨k, x + 1, y⟩] else []) := by
  have hx : a[k]? = some a[k] := List.getElem?_eq_getElem hk
  have hy : b[k]? = some (b[k]'(by omega)) := List.getElem?_eq_getElem (by omega)
  have b1 := ok1_at ha hx
  have b2 := ok1_at hb hy
  exact ⟨_, _, hx, hy, b1.1, b1.2, b2.1, b2.2, by rw [missL, getD_get hx, getD_get hy]⟩
theorem miss_add : ∀ k, k ≤ a.length → addL a.length a (missL a b k) = some ((List.zipWith max a b).take k ++ a.drop k)
  | 0, _ => by simp [missL, addL]
  | k + 1, hk => by
    have ih := miss_add k (by omega)
    obtain ⟨x, y, hx, hy, x0, x1, y0, y1, hm⟩ := miss_at ha hb hl (k := k) (by omega)
    have hz := zw_step (f := max) hl hx hy
    have hkl : k < a.length := by omega
    have hacc : ((List.zipWith max a b).take k ++ a.drop k)[k]? = some x := by
      rw [List.getElem?_append_right (by rw [List.length_take, List.length_zipWith]; omega)]
      rw [List.length_take, List.length_zipWith, show min k (min a.length b.length) = k by omega, Nat.sub_self, List.getElem?_drop]
      simpa using hx
    rw [hm]
    by_cases hxy : x < y
    · rw [if_pos hxy]
      have hbad : badSp a.length ((List.zipWith max a b).take k ++ a.drop k) ⟨k, x + 1, y⟩ = false := by
        simp only [badSp, Int.toNat_natCast, getD_get hacc]
        simp; omega
      rw [addL_snoc ih hbad, addStep]
      simp only [Int.toNat_natCast, getD_get hacc]
      rw [hz]
    · rw [if_neg hxy, List.append_nil, ih, ← hz, show max x y = x by omega, set_same hacc]
theorem miss_adds : addS a (missS a b) = (foldS max [a, b], 0) := by
  have h := miss_add ha hb hl a.length (Nat.le_refl _)
  rw [missS, if_pos (alike_of ha hb hl.symm), addS, if_pos ha, h, fold_two ha hb hl]
  simp only
  rw [List.take_of_length_le (by rw [List.length_zipWith]; omega), List.drop_length, List.append_nil]
theorem miss_lt : ∀ k, k ≤ a.length → ∀ s ∈ missL a b k, 0 ≤ s.r ∧ s.r < k ∧ 1 ≤ s.f ∧ s.f ≤ s.t ∧ s.t ≤ 1024
  | 0, _, s, hs => by simp [missL] at hs
  | k + 1, hk, s, hs => by
    obtain ⟨x, y, hx, hy, x0, x1, y0, y1, hm⟩ := miss_at ha hb hl (k := k) (by omega)
    rw [hm, List.mem_append] at hs
    rcases hs with hs | hs
    · have := miss_lt k (by omega) s hs; omega
    · by_cases hxy : x < y
      · rw [if_pos hxy] at hs
        simp at hs; subst hs
        simp only; omega
      · rw [if_neg hxy] at hs; cases hs
theorem miss_inc : ∀ k, k ≤ a.length → ∀ (i : Nat) (s t : Sp), (missL a b k)[i]? = some s → (missL a b k)[i + 1]? = some t → s.r < t.r
  | 0, _, i, s, t, hs, _ => by simp [missL] at hs
  | k + 1, hk, i, s, t, hs, ht => by
    obtain ⟨x, y, hx, hy, x0, x1, y0, y1, hm⟩ := miss_at ha hb hl (k := k) (by omega)
    have ih := miss_inc k (by omega)
    have hlt := miss_lt ha hb hl k (by omega)
    rw [hm] at hs ht
    by_cases hxy : x < y
    · rw [if_pos hxy] at hs ht
      by_cases hi : i + 1 < (missL a b k).length
      · rw [List.getElem?_append_left hi] at ht
        rw [List.getElem?_append_left (by omega)] at hs
        exact ih i s t hs ht
      · rw [List.getElem?_append_right (by omega)] at ht
        have hi0 : i + 1 - (missL a b k).length = 0 := by
          have := (List.getElem?_eq_some_iff.1 ht).1; simp at this; omega
        rw [hi0] at ht
        simp at ht; subst ht
        rw [List.getElem?_append_left (by omega)] at hs
        exact (hlt s (List.mem_of_getElem? hs)).2.1
    · rw [if_neg hxy, List.append_nil] at hs ht
      exact ih i s t hs ht
theorem miss_any (dr dn : Int) : ∀ k, k ≤ a.length → (missL a b k).any (inSp dr dn) = decide (0 ≤ dr ∧ dr < k ∧ a.getD dr.toNat 0 < dn ∧ dn ≤ b.getD dr.toNat 0)
  | 0, _ => by simp [missL]; omega
  | k + 1, hk => by
    obtain ⟨x, y, hx, hy, x0, x1, y0, y1, hm⟩ := miss_at ha hb hl (k := k) (by omega)
    rw [hm, List.any_append, miss_any dr dn k (by omega), Bool.eq_iff_iff]
    by_cases hdk : dr = (k : Int)
    · subst hdk
      simp only [Int.toNat_natCast, getD_get hx, getD_get hy]
      by_cases hxy : x < y
      · rw [if_pos hxy]; simp [inSp]; omega
      · rw [if_neg hxy]; simp; omega
    · by_cases hxy : x < y
      · rw [if_pos hxy]; simp [inSp]; omega
      · rw [if_neg hxy]; simp; omega
theorem miss_sum : ∀ k, k ≤ a.length → lens (missL a b k) = sumL ((List.zipWith max a b).take k) - sumL (a.take k)
  | 0, _ => by simp [missL, lens, sumL]
  | k + 1, hk => by
    obtain ⟨x, y, hx, hy, x0, x1, y0, y1, hm⟩ := miss_at ha hb hl (k := k) (by omega)
    have hz : (List.zipWith max a b)[k]? = some (max x y) := by rw [List.getElem?_zipWith, hx, hy]
    rw [hm, sum_snoc hx, sum_snoc hz]
    have ih := miss_sum k (by omega)
    by_cases hxy : x < y
    · rw [if_pos hxy, lens_snoc, ih, lenSp]; simp only; omega
    · rw [if_neg hxy, List.append_nil, ih]; omega
end
/-- All that ClockMissing asks, of two clocks of one length. -/
structure Mis (a b : List Int) (dr dn : Int) : Prop where
  add : addS a (missS a b) = (foldS max [a, b], 0)
  bd : ∀ s ∈ missS a b, 0 ≤ s.r ∧ s.r < 5 ∧ 1 ≤ s.f ∧ s.f ≤ s.t ∧ s.t ≤ 1024
  inc : ∀ (i : Nat) (s t : Sp), (missS a b)[i]? = some s → (missS a b)[i + 1]? = some t → s.r < t.r
  any : (missS a b).any (inSp dr dn) = (hasS b dr dn && !hasS a dr dn)
  sum : lens (missS a b) = countS (foldS max [a, b]) - countS a
  len : (missS a b).length ≤ 5
theorem miss_le (a b : List Int) : ∀ k, (missL a b k).length ≤ k
  | 0 => Nat.le_refl _
  | k + 1 => by have := miss_le a b k; rw [missL]; split <;> simp <;> omega
theorem missing {a b : List Int} (ha : validB a = true) (hb : validB b = true) (hl : a.length = b.length) (dr dn : Int) : Mis a b dr dn := by
  have h5 : a.length ≤ 5 := by simp [validB] at ha; omega
  have hm : missS a b = missL a b a.length := by rw [missS, if_pos (alike_of ha hb hl.symm)]
  refine ⟨miss_adds ha hb hl, ?_, ?_, ?_, ?_, ?_⟩
  · rw [hm]; intro s hs; have := miss_lt ha hb hl _ (Nat.le_refl _) s hs; omega
  · rw [hm]; exact miss_inc ha hb hl _ (Nat.le_refl _)
  · rw [hm, miss_any ha hb hl dr dn _ (Nat.le_refl _), hasS, hasS, ha, hb, ← hl, Bool.eq_iff_iff]
    by_cases h : 0 ≤ dr ∧ dr < a.length
    · obtain ⟨k, rfl⟩ := Int.eq_ofNat_of_zero_le h.1
      have hx : a[k]? = some (a[k]'(by omega)) := List.getElem?_eq_getElem (by omega)
      have b1 := ok1_at ha hx
      simp only [Int.toNat_natCast, getD_get hx]
      simp
      omega
    · simp; omega
  · rw [hm, miss_sum ha hb hl _ (Nat.le_refl _), List.take_length, List.take_of_length_le (by rw [List.length_zipWith]; omega), fold_two ha hb hl, countS, countS, if_pos (valid_zw ok_max ha hb hl), if_pos ha]
  · rw [hm]; have := miss_le a b a.length; omega
end Go.Proofs.YtfdchnepaaampaaDoor
