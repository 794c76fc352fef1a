/- Walks: alike, Compare and Zero of the clocks and of their reference compute the plain functions of the text Spec. Conditions: the arguments read as lists. -/
import Derived.Test.YtfdchnepaaampaaDoorClkA
namespace Go.Proofs.YtfdchnepaaampaaDoor
set_option linter.unusedSimpArgs false
set_option linter.unusedVariables false
set_option linter.unusedSectionVars false
open Go.RowKit

set_option maxHeartbeats 800000 in
theorem alike_b (A : Option Addr) (p c : Nat) (l : List (List Int)) (w : World) (hr : RL w A p l) (r : Bool) (hb : alikeB l = r) :
    Calls Tryd.prog 43 #[.slice A p c] w fun e w' => e = .returned (.bool r) ∧ w = w' := by
  have hlen := hr.le
  have hl := Lib.hid hr.len
  replace hb := Lib.hid hb
  obtain ⟨n0, hn0⟩ : ∃ n0, (l.headD []).length = n0 := ⟨_, rfl⟩
  replace hn0 := Lib.hid hn0
  go_enter Tryd.func43, Tryd.ntmps43
  go_wp2
  go_loop [7] (fun i => ∃ k : Nat, k ≤ p ∧ i = .int .i64 k ∧ (l.take k).all (al1 n0) = true) (fun i => p - (intOf i).toNat)
  case atStart => exact ⟨0, Nat.zero_le _, rfl, rfl⟩
  case round =>
    obtain ⟨k, hk, rfl, hall⟩ := hrel
    replace hall := Lib.hid hall
    by_cases hlt : k < p
    · obtain ⟨b, o, B, m, d, x, rfl, hx, hc, hv⟩ := hr.at_ hlt
      obtain ⟨b', o', B0, m0, d0, x0, he, hx0, hc0, hv0⟩ := hr.at_ (k := 0) (by omega)
      cases he
      rw [Nat.add_zero] at hc0
      have hl0 : (0 : Int) < (p : Int) := by omega
      have hl1 : 0 < p := by omega
      have hh := Lib.hid (headD_of (d := []) hx0)
      have hxl := Lib.hid hv.len
      have hxl0 := Lib.hid hv0.len
      have hm0 : Hid (m0 = n0) := by show m0 = n0; rw [← hxl0.out, ← hn0.out, hh.out]
      replace hx := Lib.hid hx; clear hr hx0 hv0
      cases hvb : validB x with
      | false =>
        replace hvb := Lib.hid hvb
        go_wp2_with (go_at_call 13; refine (valid_b _ _ _ _ _ hv _ hvb.out).mono ?_; rintro e w' ⟨rfl, rfl⟩)
        go_ret
        exact ⟨ret_bool (by rw [← hb.out]; simp only [alikeB, hn0.out]; rw [all_false_of hx.out (by simp [al1, hvb.out])]; rfl), rfl⟩
      | true =>
        replace hvb := Lib.hid hvb
        by_cases hn : m = m0
        · subst hn
          go_wp2_with (go_at_call 13; refine (valid_b _ _ _ _ _ hv _ hvb.out).mono ?_; rintro e w' ⟨rfl, rfl⟩)
          go_round
          case rel => exact ⟨k + 1, by omega, by go_num, all_step hall.out hx.out (by simp only [al1, hvb.out, hxl.out, hm0.out]; simp)⟩
          case measure => simp [intOf]; omega
        · have h1 : ((m : Int) != (m0 : Int)) = true := by simp; omega
          replace hn := Lib.hid hn
          go_wp2_with (go_at_call 13; refine (valid_b _ _ _ _ _ hv _ hvb.out).mono ?_; rintro e w' ⟨rfl, rfl⟩)
          go_ret
          exact ⟨ret_bool (by rw [← hb.out]; simp only [alikeB, hn0.out]; rw [all_false_of hx.out (by simp only [al1, hxl.out, ← hm0.out]; simp [hn.out])]; rfl), rfl⟩
    · have hd := Lib.hid (all_done hall.out (by rw [hl.out]; omega))
      clear hr
      go_wp2
      all_goals
        go_ret
        refine ⟨ret_bool ?_, rfl⟩; rw [← hb.out]; simp only [alikeB, hn0.out, hd.out, hl.out, Bool.true_and]; try (rw [Bool.eq_iff_iff]; simp)

set_option maxHeartbeats 800000 in
theorem ralike_b (A : Option Addr) (p c : Nat) (l : List (List Int)) (w : World) (hr : RL w A p l) (r : Bool) (hb : alikeB l = r) :
    Calls Tryd.prog 41 #[.slice A p c] w fun e w' => e = .returned (.bool r) ∧ ∃ n, w' = w.drewN n := by
  have hlen := hr.le
  have hl := Lib.hid hr.len
  replace hb := Lib.hid hb
  obtain ⟨n0, hn0⟩ : ∃ n0, (l.headD []).length = n0 := ⟨_, rfl⟩
  replace hn0 := Lib.hid hn0
  go_enter Tryd.func41, Tryd.ntmps41
  go_wp2
  go_loopw [3] (fun i wr => ∃ k n : Nat, k ≤ p ∧ i = .int .i64 k ∧ (l.take k).all (al1 n0) = true ∧ wr = w.drewN n) (fun i _ => p - (intOf i).toNat)
  case atStart => exact ⟨0, 0, Nat.zero_le _, rfl, rfl, rfl⟩
  case round =>
    obtain ⟨k, q, hk, rfl, hall, rfl⟩ := hrel
    replace hall := Lib.hid hall
    by_cases hlt : k < p
    · obtain ⟨b, o, B, m, d, x, rfl, hx, hc, hv⟩ := hr.at_ hlt
      obtain ⟨b', o', B0, m0, d0, x0, he, hx0, hc0, hv0⟩ := hr.at_ (k := 0) (by omega)
      cases he
      rw [Nat.add_zero] at hc0
      have hl0 : (0 : Int) < (p : Int) := by omega
      have hl1 : 0 < p := by omega
      have hh := Lib.hid (headD_of (d := []) hx0)
      have hxl := Lib.hid hv.len
      have hxl0 := Lib.hid hv0.len
      have hm0 : Hid (m0 = n0) := by show m0 = n0; rw [← hxl0.out, ← hn0.out, hh.out]
      replace hx := Lib.hid hx; clear hr hx0 hv0
      cases hvb : validB x with
      | false =>
        replace hvb := Lib.hid hvb
        go_wp2_with fail
        go_quiet ((go_at_call 14; exact quiet_add_left (rvalid_b _ _ _ _ _ (hv.drewN _) _ hvb.out)))
        go_wp2
        go_ret
        exact ⟨ret_bool (by rw [← hb.out]; simp only [alikeB, hn0.out]; rw [all_false_of hx.out (by simp [al1, hvb.out])]; rfl), _, dN⟩
      | true =>
        replace hvb := Lib.hid hvb
        by_cases hn : m = m0
        · subst hn
          go_wp2_with fail
          go_quiet ((go_at_call 14; exact quiet_add_left (rvalid_b _ _ _ _ _ (hv.drewN _) _ hvb.out)))
          go_wp2
          go_roundw
          case rel => exact ⟨k + 1, _, by omega, by go_num, all_step hall.out hx.out (by simp only [al1, hvb.out, hxl.out, hm0.out]; simp), rfl⟩
          case measure => simp [intOf]; omega
        · have h1 : ((m : Int) != (m0 : Int)) = true := by simp; omega
          replace hn := Lib.hid hn
          go_wp2_with fail
          go_quiet ((go_at_call 14; exact quiet_add_left (rvalid_b _ _ _ _ _ (hv.drewN _) _ hvb.out)))
          go_wp2
          go_ret
          exact ⟨ret_bool (by rw [← hb.out]; simp only [alikeB, hn0.out]; rw [all_false_of hx.out (by simp only [al1, hxl.out, ← hm0.out]; simp [hn.out])]; rfl), _, dN⟩
    · have hd := Lib.hid (all_done hall.out (by rw [hl.out]; omega))
      clear hr
      go_wp2
      all_goals
        go_ret
        refine ⟨ret_bool ?_, _, rfl⟩; rw [← hb.out]; simp only [alikeB, hn0.out, hd.out, hl.out, Bool.true_and]; try (rw [Bool.eq_iff_iff]; simp)

set_option maxHeartbeats 800000 in
theorem compare_b (A B : Option Addr) (m m' c d : Nat) (xs ys : List Int) (w : World) (hr : RI w A m xs) (hs : RI w B m' ys) (r1 r2 : Int) (hb : compareS xs ys = (r1, r2)) :
    Calls Tryd.prog 22 #[.slice A m c, .slice B m' d] w fun e w' => e = .returned (.tuple #[.int .i64 r1, .int .i64 r2]) ∧ Below w.heap.size w w' := by
  have hL := RL.two c d hr hs 25
  have hw1 : Below w.heap.size w (w.alloc (.cells #[.slice A m c, .slice B m' d] 25)) := (Below.refl _ _).alloc (Nat.le_refl _) _
  cases ha : alikeB [xs, ys] with
  | false =>
    obtain ⟨rfl, rfl⟩ : r1 = 0 ∧ r2 = 1 := by simp [compareS, ha] at hb; omega
    replace ha := Lib.hid ha
    clear hb
    go_enter Tryd.func22, Tryd.ntmps22
    go_wp2_with (go_at_call 43; refine (alike_b _ _ _ _ _ hL _ ha.out).mono ?_; rintro e w' ⟨rfl, rfl⟩)
    go_ret2
    exact ⟨rfl, hw1⟩
  | true =>
    obtain rfl : m = m' := by rw [← hr.len, ← hs.len]; exact alike_len ha
    cases h1 : insideB xs ys <;> cases h2 : insideB ys xs
    all_goals
      simp [compareS, ha, h1, h2] at hb
      obtain ⟨rfl, rfl⟩ := hb
      replace ha := Lib.hid ha
      replace h1 := Lib.hid h1
      replace h2 := Lib.hid h2
      go_enter Tryd.func22, Tryd.ntmps22
      go_wp2_with fail
      refine (alike_b _ _ _ _ _ hL _ ha.out).mono ?_; rintro e w' ⟨rfl, rfl⟩
      go_wp2_with fail
      refine (inside_any _ _ _ _ _ _ _ _ (hr.below hw1) (hs.below hw1) _ h1.out).mono ?_; rintro e w' ⟨rfl, n, rfl⟩
      go_wp2_with fail
      refine (inside_any _ _ _ _ _ _ _ _ ((hs.below hw1).drewN _) ((hr.below hw1).drewN _) _ h2.out).mono ?_; rintro e w' ⟨rfl, n', rfl⟩
      go_wp2
      go_ret2
      exact ⟨rfl, below_drewN hw1 _⟩

set_option maxHeartbeats 800000 in
theorem rcompare_b (A B : Option Addr) (m m' c d : Nat) (xs ys : List Int) (w : World) (hr : RI w A m xs) (hs : RI w B m' ys) (r1 r2 : Int) (hb : rcompareS xs ys = (r1, r2)) :
    Calls Tryd.prog 29 #[.slice A m c, .slice B m' d] w fun e w' => e = .returned (.tuple #[.int .i64 r1, .int .i64 r2]) ∧ Below w.heap.size w w' := by
  have hL := RL.two c d hr hs 25
  have hw1 : Below w.heap.size w (w.alloc (.cells #[.slice A m c, .slice B m' d] 25)) := (Below.refl _ _).alloc (Nat.le_refl _) _
  cases ha : alikeB [xs, ys] with
  | false =>
    obtain ⟨rfl, rfl⟩ : r1 = 0 ∧ r2 = 1 := by simp [rcompareS, ha] at hb; omega
    replace ha := Lib.hid ha
    clear hb
    go_enter Tryd.func29, Tryd.ntmps29
    go_wp2_with (go_at_call 41; refine (ralike_b _ _ _ _ _ hL _ ha.out).mono ?_; rintro e w' ⟨rfl, n, rfl⟩)
    go_ret2
    exact ⟨rfl, below_drewN hw1 _⟩
  | true =>
    cases h0 : xs == ys with
    | true =>
      simp [rcompareS, ha, h0] at hb
      obtain ⟨rfl, rfl⟩ := hb
      replace ha := Lib.hid ha
      replace h0 := Lib.hid h0
      go_enter Tryd.func29, Tryd.ntmps29
      go_wp2_with fail
      refine (ralike_b _ _ _ _ _ hL _ ha.out).mono ?_; rintro e w' ⟨rfl, n, rfl⟩
      go_wp2_with fail
      refine (ints_any _ _ _ _ _ _ _ _ _ ((hr.below hw1).drewN _) ((hs.below hw1).drewN _) _ h0.out).mono ?_; rintro e w' ⟨rfl, n', rfl⟩
      go_wp2
      go_ret2
      exact ⟨rfl, below_drewN hw1 _⟩
    | false =>
      cases h1 : insideB xs ys with
      | true =>
        simp [rcompareS, ha, h0, h1] at hb
        obtain ⟨rfl, rfl⟩ := hb
        replace ha := Lib.hid ha
        replace h0 := Lib.hid h0
        replace h1 := Lib.hid h1
        go_enter Tryd.func29, Tryd.ntmps29
        go_wp2_with fail
        refine (ralike_b _ _ _ _ _ hL _ ha.out).mono ?_; rintro e w' ⟨rfl, n, rfl⟩
        go_wp2_with fail
        refine (ints_any _ _ _ _ _ _ _ _ _ ((hr.below hw1).drewN _) ((hs.below hw1).drewN _) _ h0.out).mono ?_; rintro e w' ⟨rfl, n', rfl⟩
        go_wp2_with fail
        refine (rinside_any _ _ _ _ _ _ _ _ _ ((hr.below hw1).drewN _) ((hs.below hw1).drewN _) _ h1.out).mono ?_; rintro e w' ⟨rfl, n', rfl⟩
        go_wp2
        go_ret2
        exact ⟨rfl, below_drewN hw1 _⟩
      | false =>
        cases h2 : insideB ys xs
        all_goals
          simp [rcompareS, ha, h0, h1, h2] at hb
          obtain ⟨rfl, rfl⟩ := hb
          replace ha := Lib.hid ha
          replace h0 := Lib.hid h0
          replace h1 := Lib.hid h1
          replace h2 := Lib.hid h2
          go_enter Tryd.func29, Tryd.ntmps29
          go_wp2_with fail
          refine (ralike_b _ _ _ _ _ hL _ ha.out).mono ?_; rintro e w' ⟨rfl, n, rfl⟩
          go_wp2_with fail
          refine (ints_any _ _ _ _ _ _ _ _ _ ((hr.below hw1).drewN _) ((hs.below hw1).drewN _) _ h0.out).mono ?_; rintro e w' ⟨rfl, n', rfl⟩
          go_wp2_with fail
          refine (rinside_any _ _ _ _ _ _ _ _ _ ((hr.below hw1).drewN _) ((hs.below hw1).drewN _) _ h1.out).mono ?_; rintro e w' ⟨rfl, n', rfl⟩
          go_wp2_with fail
          refine (rinside_any _ _ _ _ _ _ _ _ _ ((hs.below hw1).drewN _) ((hr.below hw1).drewN _) _ h2.out).mono ?_; rintro e w' ⟨rfl, n', rfl⟩
          go_wp2
          go_ret2
          exact ⟨rfl, below_drewN hw1 _⟩
end Go.Proofs.YtfdchnepaaampaaDoor
