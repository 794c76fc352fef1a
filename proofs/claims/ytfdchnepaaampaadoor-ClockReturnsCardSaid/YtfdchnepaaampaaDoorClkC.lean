/- Walks: slices.Equal and slices.Clone at []int by the shelf's contracts; fold, Join, Meet. Conditions: the arguments read as lists. -/
import Derived.Test.YtfdchnepaaampaaDoorClkB
import Derived.Test.YtfdchnepaaampaaDoorShelf
namespace Go.Proofs.YtfdchnepaaampaaDoor
set_option linter.unusedSimpArgs false
set_option linter.unusedVariables false
set_option linter.unusedSectionVars false
open Go.RowKit

theorem getD_of {xs : List Int} {j : Nat} (h : j < xs.length) : xs[j]? = some (xs.getD j 0) := by
  rw [List.getD_eq_getElem?_getD, List.getElem?_eq_getElem h]; rfl
theorem RC.ints {w : World} {b o : Nat} {xs : List Int} (h : ∀ j u, (xs.map (Value.int .i64))[j]? = some u → w.cell? ⟨b, o + j, none⟩ = some u) : ∀ j, j < xs.length → w.cell? ⟨b, o + j, none⟩ = some (.int .i64 (xs.getD j 0)) :=
  fun j hj => h j _ (by rw [List.getElem?_map, getD_of hj]; rfl)

theorem equal_b (A B : Option Addr) (n m c d : Nat) (xs ys : List Int) (w : World) (hr : RI w A n xs) (hs : RI w B m ys) (r : Bool) (hb : (xs == ys) = r) :
    Calls Tryd.prog 15 #[.slice A n c, .slice B m d] w fun e w' => e = .returned (.bool r) ∧ ∃ q, w' = w.drewN q := by
  obtain ⟨h1, h2, h3⟩ := hr
  obtain ⟨k1, k2, k3⟩ := hs
  by_cases hnm : n = m
  · subst hnm
    rcases Nat.eq_zero_or_pos n with h0 | h0
    · subst h0
      refine (Tryd.slices_Equal_int_empty A B c 0 d w (by omega)).mono ?_
      rintro e w' ⟨rfl, rfl⟩
      rw [List.eq_nil_of_length_eq_zero h1, List.eq_nil_of_length_eq_zero k1] at hb
      exact ⟨by rw [← hb]; rfl, 0, rfl⟩
    · obtain ⟨b, o, rfl, _, hc⟩ := h3 (by simpa [h1] using h0)
      obtain ⟨b', o', rfl, _, hc'⟩ := k3 (by simpa [k1] using h0)
      refine (Tryd.slices_Equal_int b o n c b' o' n d xs ys w (by omega) (by omega) (by omega) (by omega) (RC.ints hc) (RC.ints hc')).mono ?_
      rintro e w' ⟨rfl, q, rfl⟩
      exact ⟨by rw [List.take_of_length_le (by omega), List.take_of_length_le (by omega), hb], q, rfl⟩
  · refine (Tryd.slices_Equal_int_lens A B n c m d w hnm).mono ?_
    rintro e w' ⟨rfl, rfl⟩
    have : (xs == ys) = false := by rw [beq_eq_false_iff_ne]; intro h; exact hnm (by rw [← h1, ← k1, h])
    exact ⟨by rw [← hb, this], 0, rfl⟩

/-- A clone of at least one element is a row of the call's own. -/
def RetO (base : Nat) (n : Nat) (xs : List Int) (w : World) (e : Ending) (w' : World) : Prop := ∃ g cap, e = .returned (.slice (some ⟨g, 0, none⟩) n cap) ∧ OI w' base g cap n xs ∧ Below w.heap.size w w'
theorem clone_own (A : Option Addr) (n c : Nat) (xs : List Int) (w : World) (hr : RI w A n xs) (h0 : 0 < n) (hbig : n ≤ 17592186044416) :
    Calls Tryd.prog 45 #[.slice A n c] w (RetO w.heap.size n xs w) := by
  obtain ⟨h1, h2, h3⟩ := hr
  obtain ⟨b, o, rfl, _, hc⟩ := h3 (by simpa [h1] using h0)
  refine (Tryd.slices_Clone_int b o n c xs w (by omega) (by omega) (RC.ints hc)).mono ?_
  rintro e w' ⟨v, rfl, hown, hne, hbel⟩
  obtain ⟨g, cap, rfl, _⟩ := own_form hown hne
  rw [List.take_of_length_le (by omega)] at hown
  exact ⟨g, cap, rfl, ⟨h1, h2, hown⟩, hbel⟩
theorem clone_any (A : Option Addr) (n c : Nat) (xs : List Int) (w : World) (hr : RI w A n xs) (hbig : n ≤ 17592186044416) :
    Calls Tryd.prog 45 #[.slice A n c] w (RetI xs w) := by
  rcases Nat.eq_zero_or_pos n with h0 | h0
  · subst h0
    have hx := List.eq_nil_of_length_eq_zero hr.len
    subst hx
    cases A with
    | none =>
      refine (Tryd.slices_Clone_int_nil 0 c w).mono ?_
      rintro e w' ⟨rfl, rfl⟩
      exact RetI.mk (RI.nil _) (Below.refl _ _)
    | some a =>
      refine (Tryd.slices_Clone_int_zero a c w).mono ?_
      rintro e w' ⟨v, rfl, hown, hne, hbel⟩
      obtain ⟨g, cap, rfl, _⟩ := own_form hown hne
      exact RetI.mk ⟨rfl, by omega, RC.nil _ _⟩ hbel
  · refine (clone_own A n c xs w hr h0 hbig).mono ?_
    rintro e w' ⟨g, cap, rfl, ho, hbel⟩
    exact RetI.mk ho.ri hbel

set_option maxHeartbeats 400000 in
theorem max_any (a b : Int) (w : World) : Calls Tryd.prog 40 #[.int .i64 a, .int .i64 b] w fun e w' => e = .returned (.int .i64 (max a b)) ∧ w = w' := by
  go_enter Tryd.func40, Tryd.ntmps40
  go_wp2
  go_ret
  exact ⟨rfl, rfl⟩
set_option maxHeartbeats 400000 in
theorem min_any (a b : Int) (w : World) : Calls Tryd.prog 42 #[.int .i64 a, .int .i64 b] w fun e w' => e = .returned (.int .i64 (min a b)) ∧ w = w' := by
  go_enter Tryd.func42, Tryd.ntmps42
  go_wp2
  go_ret
  exact ⟨rfl, rfl⟩
end Go.Proofs.YtfdchnepaaampaaDoor
