/- Walks of the laws ClockBounds and ClockSpans: they answer true. Conditions: the arguments read as lists, the library's table of powers stands. -/
import Derived.Test.YtfdchnepaaampaaDoorLawA
import Derived.Test.YtfdchnepaaampaaDoorClkZ
import Derived.Test.YtfdchnepaaampaaDoorOpen
namespace Go.Proofs.YtfdchnepaaampaaDoor
open Go.RowKit

theorem below_next {w a b : World} (h : Below w.heap.size w a) (h' : Below a.heap.size a b) : Below w.heap.size w b := h.trans (h'.mono h.size)
set_option maxHeartbeats 1600000 in
set_option maxRecDepth 100000 in
theorem law_bounds (A : Option Addr) (n c : Nat) (l : List (List Int)) (r : Int) (w : World) (hr : RL w A n l) (hnc : n ≤ c) (ht : Tab w) :
    Calls Tryd.prog 3 #[.slice A n c, .int .i64 r] w (Law w) := by
  have hm := hr.le
  cases hf : fewB l with
  | false =>
    replace hf := Lib.hid hf
    go_enter Tryd.func3, Tryd.ntmps3
    go_wp2_with fail
    refine (awake_any _ ht).mono ?_; rintro e w1 ⟨rfl, hb1⟩
    go_wp2_with fail
    refine (few_b _ _ _ _ _ (hr.below hb1) _ hf.out).mono ?_; rintro e w' ⟨rfl, rfl⟩
    go_wp2_with fail
    go_ret
    exact Law.mk hb1
  | true =>
    replace hf := Lib.hid hf
    go_enter Tryd.func3, Tryd.ntmps3
    go_wp2_with fail
    refine (awake_any _ ht).mono ?_; rintro e w1 ⟨rfl, hb1⟩
    go_wp2_with fail
    refine (few_b _ _ _ _ _ (hr.below hb1) _ hf.out).mono ?_; rintro e w' ⟨rfl, rfl⟩
    go_wp2_with fail
    go_loop [14] (fun i => ∃ k : Nat, k ≤ n ∧ i = .int .i64 k) (fun i => n - (intOf i).toNat)
    case atStart => exact ⟨0, Nat.zero_le _, rfl⟩
    case round =>
      obtain ⟨k, hk, rfl⟩ := hrel
      by_cases hlt : k < n
      · obtain ⟨b, o, B, m, d, x, rfl, hx, hc, hv⟩ := (hr.below hb1).at_ hlt
        clear hx hr
        obtain ⟨vb, hvb⟩ : ∃ vb, validB x = vb := ⟨_, rfl⟩
        replace hvb := Lib.hid hvb
        go_wp2_with fail
        refine (valid_b _ _ _ _ _ hv _ hvb.out).mono ?_; rintro e w' ⟨rfl, rfl⟩
        go_wp2_with fail
        refine (rvalid_b _ _ _ _ _ hv _ hvb.out).mono ?_; rintro e w' ⟨rfl, rfl⟩
        go_wp2_with fail
        go_round
        case rel => exact ⟨k + 1, by omega, by go_num⟩
        case measure => simp [intOf]; omega
      · go_wp2_with fail
        refine (zero_any _ _).mono ?_; rintro e w2 ⟨A2, n2, c2, rfl, hI2, hb2⟩
        go_wp2_with fail
        refine (rzero_any _ _).mono ?_; rintro e w3 ⟨A3, n3, c3, rfl, hI3, hb3⟩
        go_wp2_with fail
        refine (equal_w _ _ _ _ _ _ _ _ _ (hI2.below hb3) hI3 true (by simp)).mono ?_; rintro e w4 ⟨rfl, hb4⟩
        have hb := below_next (below_next (below_next hb1 hb2) hb3) hb4
        clear hI2 hI3 hb2 hb3 hb4 hb1
        go_wp2_with fail
        refine (join_any _ _ _ _ _ (hr.below hb) hnc).mono ?_; rintro e w2 ⟨A2, n2, c2, rfl, hI2, hb2⟩
        go_wp2_with fail
        refine (rfold_max _ _ _ _ _ (hr.below (below_next hb hb2))).mono ?_; rintro e w3 ⟨A3, n3, c3, rfl, hI3, hb3⟩
        go_wp2_with fail
        refine (equal_w _ _ _ _ _ _ _ _ _ (hI2.below hb3) hI3 true (by simp)).mono ?_; rintro e w4 ⟨rfl, hb4⟩
        replace hb := below_next (below_next (below_next hb hb2) hb3) hb4
        clear hI2 hI3 hb2 hb3 hb4
        go_wp2_with fail
        refine (meet_any _ _ _ _ _ (hr.below hb) hnc).mono ?_; rintro e w2 ⟨A2, n2, c2, rfl, hI2, hb2⟩
        go_wp2_with fail
        refine (rfold_min _ _ _ _ _ (hr.below (below_next hb hb2))).mono ?_; rintro e w3 ⟨A3, n3, c3, rfl, hI3, hb3⟩
        go_wp2_with fail
        refine (equal_w _ _ _ _ _ _ _ _ _ (hI2.below hb3) hI3 true (by simp)).mono ?_; rintro e w4 ⟨rfl, hb4⟩
        replace hb := below_next (below_next (below_next hb hb2) hb3) hb4
        clear hI2 hI3 hb2 hb3 hb4
        go_wp2_with fail
        go_ret
        exact Law.mk hb
end Go.Proofs.YtfdchnepaaampaaDoor
