/- Walks: Count of the clocks and of their reference; few of the laws. Conditions: the arguments read as lists. -/
import Derived.Test.YtfdchnepaaampaaDoorClkF
namespace Go.Proofs.YtfdchnepaaampaaDoor
set_option linter.unusedSimpArgs false
set_option linter.unusedVariables false
set_option linter.unusedSectionVars false
open Go.RowKit

set_option maxHeartbeats 800000 in
theorem few_b (A : Option Addr) (p c : Nat) (l : List (List Int)) (w : World) (hr : RL w A p l) (r : Bool) (hb : fewB l = r) :
    Calls Tryd.prog 12 #[.slice A p c] w fun e w' => e = .returned (.bool r) ∧ w = w' := by
  have hlen := hr.le
  have hl := Lib.hid hr.len
  replace hb := Lib.hid hb
  go_enter Tryd.func12, Tryd.ntmps12
  go_wp2
  go_loop [7] (fun i => ∃ k : Nat, k ≤ p ∧ i = .int .i64 k ∧ (l.take k).all (fun c => decide (c.length ≤ 8)) = true) (fun i => p - (intOf i).toNat)
  case atStart => exact ⟨0, Nat.zero_le _, rfl, rfl⟩
  case round =>
    obtain ⟨k, hk, rfl, hall⟩ := hrel
    replace hall := Lib.hid hall
    by_cases hlt : k < p
    · obtain ⟨b, o, B, m, d, x, rfl, hx, hc, hv⟩ := hr.at_ hlt
      have hxl := Lib.hid hv.len
      have hml := hv.le
      replace hx := Lib.hid hx; clear hr hv
      go_wp2
      · go_ret
        exact ⟨ret_bool (by rw [← hb.out, fewB, all_false_of hx.out (by simp [hxl.out]; omega)]; rfl), rfl⟩
      · go_round
        case rel => exact ⟨k + 1, by omega, by go_num, all_step hall.out hx.out (by simp [hxl.out]; omega)⟩
        case measure => simp [intOf]; omega
    · have hd := Lib.hid (all_done hall.out (by rw [hl.out]; omega))
      clear hr
      go_wp2
      all_goals
        go_ret
        refine ⟨ret_bool ?_, rfl⟩; rw [← hb.out, fewB, hd.out, hl.out]; rw [Bool.eq_iff_iff]; simp <;> omega

set_option maxHeartbeats 800000 in
theorem count_any (A : Option Addr) (m c : Nat) (xs : List Int) (w : World) (hr : RI w A m xs) :
    Calls Tryd.prog 23 #[.slice A m c] w fun e w' => e = .returned (.int .i64 (countS xs)) ∧ w = w' := by
  have hm := hr.le
  have hl := Lib.hid hr.len
  cases hv : validB xs with
  | false =>
    have h0 : Hid (countS xs = 0) := by show _ = _; simp [countS, hv]
    replace hv := Lib.hid hv
    go_enter Tryd.func23, Tryd.ntmps23
    go_wp2_with (go_at_call 13; refine (valid_b _ _ _ _ _ hr _ hv.out).mono ?_; rintro e w' ⟨rfl, rfl⟩)
    go_ret
    exact ⟨ret_int (by rw [h0.out]), rfl⟩
  | true =>
    have h0 : Hid (countS xs = sumL xs) := by show _ = _; simp [countS, hv]
    have h5 : m ≤ 5 := by simp [validB] at hv; rw [← hl.out]; omega
    replace hv := Lib.hid hv
    go_enter Tryd.func23, Tryd.ntmps23
    go_wp2_with (go_at_call 13; refine (valid_b _ _ _ _ _ hr _ hv.out).mono ?_; rintro e w' ⟨rfl, rfl⟩)
    go_loop [3, 11] (fun s i => ∃ (k : Nat) (q : Int), k ≤ m ∧ i = .int .i64 k ∧ s = .int .i64 q ∧ sumL (xs.take k) = q ∧ 0 ≤ q ∧ q ≤ 1024 * k) (fun _ i => m - (intOf i).toNat)
    case atStart => exact ⟨0, 0, Nat.zero_le _, rfl, rfl, rfl, by omega, by omega⟩
    case round =>
      obtain ⟨k, q, hk, rfl, rfl, hs, hq0, hq1⟩ := hrel
      replace hs := Lib.hid hs
      by_cases hlt : k < m
      · obtain ⟨b, o, n, rfl, hx, hc⟩ := hr.at_ hlt
        have ⟨hn0, hn1⟩ := ok1_at hv.out hx
        have hs' := Lib.hid (sum_snoc hx)
        replace hx := Lib.hid hx; clear hr
        go_wp2
        go_round
        case rel => exact ⟨k + 1, q + n, by omega, by go_num, rfl, by rw [hs'.out, hs.out], by omega, by omega⟩
        case measure => simp [intOf]; omega
      · have hke : Hid (xs.take k = xs) := by show _ = _; exact List.take_of_length_le (by rw [hl.out]; omega)
        rw [hke.out] at hs
        clear hr
        go_wp2
        go_ret
        exact ⟨ret_int (by rw [h0.out, hs.out]), rfl⟩

set_option maxHeartbeats 800000 in
theorem rcount_any (A : Option Addr) (m c : Nat) (xs : List Int) (w : World) (hr : RI w A m xs) :
    Calls Tryd.prog 34 #[.slice A m c] w fun e w' => e = .returned (.int .i64 (countS xs)) ∧ w = w' := by
  have hm := hr.le
  have hl := Lib.hid hr.len
  cases hv : validB xs with
  | false =>
    have h0 : Hid (countS xs = 0) := by show _ = _; simp [countS, hv]
    replace hv := Lib.hid hv
    go_enter Tryd.func34, Tryd.ntmps34
    go_wp2_with fail
    refine wp_loop_rounds 1 ?_; rw [rounds_succ]
    by_cases hm0 : 0 < m
    all_goals
      go_wp2_with (go_at_call 14; refine (rvalid_b _ _ _ _ _ hr _ hv.out).mono ?_; rintro e w' ⟨rfl, rfl⟩)
      go_ret
      exact ⟨ret_int (by rw [h0.out]), rfl⟩
  | true =>
    have h0 : Hid (countS xs = sumL xs) := by show _ = _; simp [countS, hv]
    have h5 : m ≤ 5 := by simp [validB] at hv; rw [← hl.out]; omega
    replace hv := Lib.hid hv
    go_enter Tryd.func34, Tryd.ntmps34
    go_wp2_with fail
    go_loop [3, 4] (fun s i => ∃ (k : Nat) (q : Int), k ≤ m ∧ i = .int .i64 k ∧ s = .int .i64 q ∧ sumL (xs.take k) = q ∧ 0 ≤ q ∧ q ≤ 1024 * k) (fun _ i => m - (intOf i).toNat)
    case atStart => exact ⟨0, 0, Nat.zero_le _, rfl, rfl, rfl, by omega, by omega⟩
    case round =>
      obtain ⟨k, q, hk, rfl, rfl, hs, hq0, hq1⟩ := hrel
      replace hs := Lib.hid hs
      by_cases hlt : k < m
      · obtain ⟨b, o, n, rfl, hx, hc⟩ := hr.at_ hlt
        have ⟨hn0, hn1⟩ := ok1_at hv.out hx
        have hs' := Lib.hid (sum_snoc hx)
        replace hx := Lib.hid hx
        go_wp2_with (go_at_call 14; refine (rvalid_b _ _ _ _ _ hr _ hv.out).mono ?_; rintro e w' ⟨rfl, rfl⟩)
        go_round
        case rel => exact ⟨k + 1, q + n, by omega, by go_num, rfl, by rw [hs'.out, hs.out], by omega, by omega⟩
        case measure => simp [intOf]; omega
      · have hke : Hid (xs.take k = xs) := by show _ = _; exact List.take_of_length_le (by rw [hl.out]; omega)
        rw [hke.out] at hs
        go_wp2_with fail
        go_ret
        exact ⟨ret_int (by rw [h0.out, hs.out]), rfl⟩
end Go.Proofs.YtfdchnepaaampaaDoor
