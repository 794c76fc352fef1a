/- Walks: Has and Count of the clocks and of their reference, few of the laws. Conditions: the arguments read as lists. -/
import Derived.Test.YtfdchnepaaampaaDoorClkA
import Derived.Test.YtfdchnepaaampaaDoorSpec2
namespace Go.Proofs.YtfdchnepaaampaaDoor
set_option linter.unusedSimpArgs false
set_option linter.unusedVariables false
set_option linter.unusedSectionVars false
open Go.RowKit

set_option maxHeartbeats 1600000 in
theorem has_b (A : Option Addr) (m c : Nat) (xs : List Int) (w : World) (hr : RI w A m xs) (r n : Int) (res : Bool) (hb : hasS xs r n = res) :
    Calls Tryd.prog 32 #[.slice A m c, .agg #[.int .i64 r, .int .i64 n]] w fun e w' => e = .returned (.bool res) ∧ Below w.heap.size w w' := by
  have hm := hr.le
  have hl := Lib.hid hr.len
  have hra := hr.alloc (.cells #[.int .i64 r, .int .i64 n] 47)
  have hbl : Hid (Below w.heap.size w (w.alloc (.cells #[.int .i64 r, .int .i64 n] 47))) := (Below.refl _ _).alloc (Nat.le_refl _) _
  cases hv : validB xs with
  | false =>
    obtain rfl : res = false := by rw [← hb, hasS, hv]; rfl
    replace hv := Lib.hid hv; replace hb := Lib.hid hb
    go_enter Tryd.func32, Tryd.ntmps32
    go_wp2
    go_quiet ((go_at_call 13; exact quiet_left (valid_b _ _ _ _ _ (hra.drewN _) _ hv.out)))
    go_wp2
    go_ret
    exact ⟨rfl, below_drewN hbl.out _⟩
  | true =>
    by_cases h1 : 0 ≤ r
    · obtain ⟨k, rfl⟩ := Int.eq_ofNat_of_zero_le h1
      by_cases h2 : k < m
      · obtain ⟨b, o, v, rfl, hx, hc⟩ := hr.at_ h2
        have hbk := hr.blk (by omega)
        by_cases h3 : 1 ≤ n
        · obtain rfl : res = decide (n ≤ v) := by rw [← hb, hasS, hv, hl.out, Int.toNat_natCast, getD_get hx]; simp [h1, h2, h3]
          replace hv := Lib.hid hv; replace hb := Lib.hid hb; replace hx := Lib.hid hx; clear hr
          have h2' : (k : Int) < (m : Int) := by omega
          go_enter Tryd.func32, Tryd.ntmps32
          go_wp2
          go_quiet ((go_at_call 13; exact quiet_left (valid_b _ _ _ _ _ (hra.drewN _) _ hv.out)))
          go_wp2
          go_ret
          exact ⟨rfl, below_drewN hbl.out _⟩
        · obtain rfl : res = false := by rw [← hb, hasS, hv]; simp [h3]
          replace hv := Lib.hid hv; replace hb := Lib.hid hb; replace hx := Lib.hid hx; clear hr
          have hd : decide (1 ≤ n) = false := by simpa using h3
          have h2' : (k : Int) < (m : Int) := by omega
          go_enter Tryd.func32, Tryd.ntmps32
          go_wp2
          go_quiet ((go_at_call 13; exact quiet_left (valid_b _ _ _ _ _ (hra.drewN _) _ hv.out)))
          go_wp2
          go_ret
          exact ⟨rfl, below_drewN hbl.out _⟩
      · obtain rfl : res = false := by rw [← hb, hasS, hv, hl.out]; simp; omega
        replace hv := Lib.hid hv; replace hb := Lib.hid hb; clear hr
        have hd : decide ((k : Int) < (m : Int)) = false := by simp; omega
        go_enter Tryd.func32, Tryd.ntmps32
        go_wp2
        go_quiet ((go_at_call 13; exact quiet_left (valid_b _ _ _ _ _ (hra.drewN _) _ hv.out)))
        go_wp2
        go_ret
        exact ⟨rfl, below_drewN hbl.out _⟩
    · obtain rfl : res = false := by rw [← hb, hasS, hv]; simp; omega
      replace hv := Lib.hid hv; replace hb := Lib.hid hb; clear hr
      have hd : decide (0 ≤ r) = false := by simpa using h1
      go_enter Tryd.func32, Tryd.ntmps32
      go_wp2
      go_quiet ((go_at_call 13; exact quiet_left (valid_b _ _ _ _ _ (hra.drewN _) _ hv.out)))
      go_wp2
      go_ret
      exact ⟨rfl, below_drewN hbl.out _⟩

set_option maxHeartbeats 1600000 in
theorem rhas_b (A : Option Addr) (m c : Nat) (xs : List Int) (w : World) (hr : RI w A m xs) (r n : Int) (res : Bool) (hb : hasS xs r n = res) :
    Calls Tryd.prog 33 #[.slice A m c, .agg #[.int .i64 r, .int .i64 n]] w fun e w' => e = .returned (.bool res) ∧ Below w.heap.size w w' := by
  have hm := hr.le
  have hl := Lib.hid hr.len
  have hra := hr.alloc (.cells #[.int .i64 r, .int .i64 n] 47)
  have hbl : Hid (Below w.heap.size w (w.alloc (.cells #[.int .i64 r, .int .i64 n] 47))) := (Below.refl _ _).alloc (Nat.le_refl _) _
  cases hv : validB xs with
  | false =>
    obtain rfl : res = false := by rw [← hb, hasS, hv]; rfl
    replace hv := Lib.hid hv; replace hb := Lib.hid hb
    go_enter Tryd.func33, Tryd.ntmps33
    go_wp2
    go_quiet ((go_at_call 14; exact quiet_left (rvalid_b _ _ _ _ _ (hra.drewN _) _ hv.out)))
    go_wp2
    go_ret
    exact ⟨rfl, below_drewN hbl.out _⟩
  | true =>
    by_cases h1 : 0 ≤ r
    · obtain ⟨k, rfl⟩ := Int.eq_ofNat_of_zero_le h1
      by_cases h2 : k < m
      · obtain ⟨b, o, v, rfl, hx, hc⟩ := hr.at_ h2
        have hbk := hr.blk (by omega)
        by_cases h3 : 1 ≤ n
        · obtain rfl : res = decide (n ≤ v) := by rw [← hb, hasS, hv, hl.out, Int.toNat_natCast, getD_get hx]; simp [h1, h2, h3]
          replace hv := Lib.hid hv; replace hb := Lib.hid hb; replace hx := Lib.hid hx; clear hr
          have h2' : (k : Int) < (m : Int) := by omega
          go_enter Tryd.func33, Tryd.ntmps33
          go_wp2
          go_quiet ((go_at_call 14; exact quiet_left (rvalid_b _ _ _ _ _ (hra.drewN _) _ hv.out)))
          go_wp2
          go_ret
          exact ⟨rfl, below_drewN hbl.out _⟩
        · obtain rfl : res = false := by rw [← hb, hasS, hv]; simp [h3]
          replace hv := Lib.hid hv; replace hb := Lib.hid hb; replace hx := Lib.hid hx; clear hr
          have hd : decide (1 ≤ n) = false := by simpa using h3
          have h2' : (k : Int) < (m : Int) := by omega
          go_enter Tryd.func33, Tryd.ntmps33
          go_wp2
          go_quiet ((go_at_call 14; exact quiet_left (rvalid_b _ _ _ _ _ (hra.drewN _) _ hv.out)))
          go_wp2
          go_ret
          exact ⟨rfl, below_drewN hbl.out _⟩
      · obtain rfl : res = false := by rw [← hb, hasS, hv, hl.out]; simp; omega
        replace hv := Lib.hid hv; replace hb := Lib.hid hb; clear hr
        have hd : decide ((k : Int) < (m : Int)) = false := by simp; omega
        go_enter Tryd.func33, Tryd.ntmps33
        go_wp2
        go_quiet ((go_at_call 14; exact quiet_left (rvalid_b _ _ _ _ _ (hra.drewN _) _ hv.out)))
        go_wp2
        go_ret
        exact ⟨rfl, below_drewN hbl.out _⟩
    · obtain rfl : res = false := by rw [← hb, hasS, hv]; simp; omega
      replace hv := Lib.hid hv; replace hb := Lib.hid hb; clear hr
      have hd : decide (0 ≤ r) = false := by simpa using h1
      go_enter Tryd.func33, Tryd.ntmps33
      go_wp2
      go_quiet ((go_at_call 14; exact quiet_left (rvalid_b _ _ _ _ _ (hra.drewN _) _ hv.out)))
      go_wp2
      go_ret
      exact ⟨rfl, below_drewN hbl.out _⟩

end Go.Proofs.YtfdchnepaaampaaDoor
