/- Walks of the laws ClockBounds and ClockSpans: they answer true. Conditions: the arguments read as lists, the library's table of powers stands. -/
import Derived.Test.YtfdchnepaaampaaDoorLawA
import Derived.Test.YtfdchnepaaampaaDoorClkZ
import Derived.Test.YtfdchnepaaampaaDoorOpen
namespace Go.Proofs.YtfdchnepaaampaaDoor
set_option linter.unusedSimpArgs false
set_option linter.unusedVariables false
set_option linter.unusedSectionVars false
open Go.RowKit

theorem below_next {w a b : World} (h : Below w.heap.size w a) (h' : Below a.heap.size a b) : Below w.heap.size w b := h.trans (h'.mono h.size)
set_option maxHeartbeats 1600000 in
set_option maxRecDepth 100000 in
theorem law_bounds (A : Option Addr) (n c : Nat) (l : List (List Int)) (r : Int) (w : World) (hr : RL w A n l) (hnc : n ≤ c) (ht : Tab w) :
    Calls Tryd.prog 3 #[.slice A n c, .int .i64 r] w (Law w) := by
  have hm := hr.le
  cases hf : fewB l with
  | false =>
    replace hf := Lib.hid hf
    go_enter Tryd.func3, Tryd.ntmps3
    go_wp2_with fail
    refine (awake_any _ ht).mono ?_; rintro e w1 ⟨rfl, hb1⟩
    go_wp2_with fail
    refine (few_b _ _ _ _ _ (hr.below hb1) _ hf.out).mono ?_; rintro e w' ⟨rfl, rfl⟩
    go_wp2_with fail
    go_ret
    exact Law.mk hb1
  | true =>
    replace hf := Lib.hid hf
    go_enter Tryd.func3, Tryd.ntmps3
    go_wp2_with fail
    refine (awake_any _ ht).mono ?_; rintro e w1 ⟨rfl, hb1⟩
    go_wp2_with fail
    refine (few_b _ _ _ _ _ (hr.below hb1) _ hf.out).mono ?_; rintro e w' ⟨rfl, rfl⟩
    go_wp2_with fail
    go_loop [14] (fun i => ∃ k : Nat, k ≤ n ∧ i = .int .i64 k) (fun i => n - (intOf i).toNat)
    case atStart => exact ⟨0, Nat.zero_le _, rfl⟩
    case round =>
      obtain ⟨k, hk, rfl⟩ := hrel
      by_cases hlt : k < n
      · obtain ⟨b, o, B, m, d, x, rfl, hx, hc, hv⟩ := (hr.below hb1).at_ hlt
        clear hx hr
        obtain ⟨vb, hvb⟩ : ∃ vb, validB x = vb := ⟨_, rfl⟩
        replace hvb := Lib.hid hvb
        go_wp2_with fail
        refine (valid_b _ _ _ _ _ hv _ hvb.out).mono ?_; rintro e w' ⟨rfl, rfl⟩
        go_wp2_with fail
        refine (rvalid_b _ _ _ _ _ hv _ hvb.out).mono ?_; rintro e w' ⟨rfl, rfl⟩
        go_wp2_with fail
        go_round
        case rel => exact ⟨k + 1, by omega, by go_num⟩
        case measure => simp [intOf]; omega
      · go_wp2_with fail
        refine (zero_any _ _).mono ?_; rintro e w2 ⟨A2, n2, c2, rfl, hI2, hb2⟩
        go_wp2_with fail
        refine (rzero_any _ _).mono ?_; rintro e w3 ⟨A3, n3, c3, rfl, hI3, hb3⟩
        go_wp2_with fail
        refine (equal_w _ _ _ _ _ _ _ _ _ (hI2.below hb3) hI3 true (by simp)).mono ?_; rintro e w4 ⟨rfl, hb4⟩
        have hb := below_next (below_next (below_next hb1 hb2) hb3) hb4
        clear hI2 hI3 hb2 hb3 hb4 hb1
        go_wp2_with fail
        refine (join_any _ _ _ _ _ (hr.below hb) hnc).mono ?_; rintro e w2 ⟨A2, n2, c2, rfl, hI2, hb2⟩
        go_wp2_with fail
        refine (rfold_max _ _ _ _ _ (hr.below (below_next hb hb2))).mono ?_; rintro e w3 ⟨A3, n3, c3, rfl, hI3, hb3⟩
        go_wp2_with fail
        refine (equal_w _ _ _ _ _ _ _ _ _ (hI2.below hb3) hI3 true (by simp)).mono ?_; rintro e w4 ⟨rfl, hb4⟩
        replace hb := below_next (below_next (below_next hb hb2) hb3) hb4
        clear hI2 hI3 hb2 hb3 hb4
        go_wp2_with fail
        refine (meet_any _ _ _ _ _ (hr.below hb) hnc).mono ?_; rintro e w2 ⟨A2, n2, c2, rfl, hI2, hb2⟩
        go_wp2_with fail
        refine (rfold_min _ _ _ _ _ (hr.below (below_next hb hb2))).mono ?_; rintro e w3 ⟨A3, n3, c3, rfl, hI3, hb3⟩
        go_wp2_with fail
        refine (equal_w _ _ _ _ _ _ _ _ _ (hI2.below hb3) hI3 true (by simp)).mono ?_; rintro e w4 ⟨rfl, hb4⟩
        replace hb := below_next (below_next (below_next hb hb2) hb3) hb4
        clear hI2 hI3 hb2 hb3 hb4
        go_wp2_with fail
        go_ret
        exact Law.mk hb

theorem spequal_w (A B : Option Addr) (n m c d : Nat) (xs ys : List Sp) (w : World) (hr : RS w A n xs) (hs : RS w B m ys) (r : Bool) (hb : decide (xs = ys) = r) :
    Calls Tryd.prog 26 #[.slice A n c, .slice B m d] w fun e w' => e = .returned (.bool r) ∧ Below w.heap.size w w' :=
  (spequal_b A B n m c d xs ys w hr hs r hb).mono fun _ _ ⟨he, q, hq⟩ => ⟨he, by rw [hq]; exact below_drewN_self _ _ _⟩

set_option maxHeartbeats 1600000 in
set_option maxRecDepth 100000 in
theorem law_spans (A B S : Option Addr) (n m p c d q : Nat) (xs ys : List Int) (l : List Sp) (w : World) (hr : RI w A n xs) (hs : RI w B m ys) (hl : RS w S p l) (ht : Tab w) :
    Calls Tryd.prog 5 #[.slice A n c, .slice B m d, .slice S p q] w (Law w) := by
  have hp := hl.le
  have start : ∀ w1 : World, Below w.heap.size w w1 → RL (w1.alloc (.cells #[.slice A n c, .slice B m d] 25)) (some ⟨w1.heap.size, 0, none⟩) 2 [xs, ys] := fun w1 hb => RL.two c d (hr.below hb) (hs.below hb) 25
  replace start := Lib.hid start
  cases hf : fewB [xs, ys] with
  | false =>
    replace hf := Lib.hid hf
    go_enter Tryd.func5, Tryd.ntmps5
    go_wp2_with fail
    refine (awake_any _ ht).mono ?_; rintro e w1 ⟨rfl, hb1⟩
    go_wp2_with fail
    refine (few_b _ _ _ _ _ (start.out _ hb1) _ hf.out).mono ?_; rintro e w' ⟨rfl, rfl⟩
    go_wp2_with fail
    go_ret
    exact Law.mk (hb1.alloc hb1.size _)
  | true =>
    replace hf := Lib.hid hf
    by_cases h8 : 8 < p
    · have e8 : decide ((8 : Int) < (p : Int)) = true := by simp; omega
      go_enter Tryd.func5, Tryd.ntmps5
      go_wp2_with fail
      refine (awake_any _ ht).mono ?_; rintro e w1 ⟨rfl, hb1⟩
      go_wp2_with fail
      refine (few_b _ _ _ _ _ (start.out _ hb1) _ hf.out).mono ?_; rintro e w' ⟨rfl, rfl⟩
      go_wp2_with fail
      go_ret
      exact Law.mk (hb1.alloc hb1.size _)
    · have e8 : decide ((8 : Int) < (p : Int)) = false := by simp; omega
      go_enter Tryd.func5, Tryd.ntmps5
      go_wp2_with fail
      refine (awake_any _ ht).mono ?_; rintro e w1 ⟨rfl, hb1⟩
      go_wp2_with fail
      refine (few_b _ _ _ _ _ (start.out _ hb1) _ hf.out).mono ?_; rintro e w' ⟨rfl, rfl⟩
      have hb2 := hb1.alloc hb1.size (.cells #[.slice A n c, .slice B m d] 25)
      go_wp2_with fail
      refine (add_any _ _ _ _ _ _ _ _ _ (hr.below hb2) (hl.below hb2)).mono ?_; rintro e w3 ⟨A3, n3, c3, rfl, hI3, hb3⟩
      have hb13 := below_next hb2 hb3
      clear hb1 hb2 hb3
      go_wp2_with fail
      refine (radd_any _ _ _ _ _ _ _ _ _ (hr.below hb13) (hl.below hb13)).mono ?_; rintro e w4 ⟨A4, n4, c4, rfl, hI4, hb4⟩
      have hb14 := below_next hb13 hb4
      replace hI3 := hI3.below hb4
      clear hb13 hb4
      go_wp2_with fail
      refine (missing_any _ _ _ _ _ _ _ _ _ (hr.below hb14) (hs.below hb14)).mono ?_; rintro e w5 ⟨A5, n5, c5, rfl, hS5, hb5⟩
      have hb15 := below_next hb14 hb5
      replace hI3 := hI3.below hb5; replace hI4 := hI4.below hb5
      clear hb14 hb5
      go_wp2_with fail
      refine (rmissing_any _ _ _ _ _ _ _ _ _ (hr.below hb15) (hs.below hb15)).mono ?_; rintro e w6 ⟨A6, n6, c6, rfl, hS6, hb6⟩
      have hb16 := below_next hb15 hb6
      replace hI3 := hI3.below hb6; replace hI4 := hI4.below hb6; replace hS5 := hS5.below hb6
      clear hb15 hb6
      go_wp2_with fail
      refine (spequal_w _ _ _ _ _ _ _ _ _ hS5 hS6 true (by simp)).mono ?_; rintro e w7 ⟨rfl, hb7⟩
      have hb17 := below_next hb16 hb7
      replace hI3 := hI3.below hb7; replace hI4 := hI4.below hb7
      clear hb16 hb7 hS5 hS6
      go_wp2_with fail
      refine (equal_w _ _ _ _ _ _ _ _ _ hI3 hI4 true (by simp)).mono ?_; rintro e w8 ⟨rfl, hb8⟩
      go_wp2_with fail
      go_ret
      exact Law.mk (below_next hb17 hb8)
end Go.Proofs.YtfdchnepaaampaaDoor
