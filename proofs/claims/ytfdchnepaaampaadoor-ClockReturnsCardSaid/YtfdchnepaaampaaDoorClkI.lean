/- Walks: slices.Equal at spans. Conditions: the arguments read as lists. -/
import Derived.Test.YtfdchnepaaampaaDoorClkD
import Derived.Test.YtfdchnepaaampaaDoorBase2
namespace Go.Proofs.YtfdchnepaaampaaDoor
set_option linter.unusedSimpArgs false
set_option linter.unusedVariables false
set_option linter.unusedSectionVars false
open Go.RowKit

set_option maxHeartbeats 800000 in
theorem spequal_b (A B : Option Addr) (m m' c d : Nat) (xs ys : List Sp) (w : World) (hr : RS w A m xs) (hs : RS w B m' ys) (r : Bool) (hb : decide (xs = ys) = r) :
    Calls Tryd.prog 26 #[.slice A m c, .slice B m' d] w fun e w' => e = .returned (.bool r) ∧ ∃ n, w' = w.drewN n := by
  have hm := hr.le
  have hl := Lib.hid hr.len
  have hl' := Lib.hid hs.len
  replace hb := Lib.hid hb
  by_cases hmm : m = m'
  · subst hmm
    go_enter Tryd.func26, Tryd.ntmps26
    go_wp2
    go_loopw [13] (fun i wr => ∃ k n : Nat, k ≤ m ∧ i = .int .i64 k ∧ xs.take k = ys.take k ∧ wr = w.drewN n) (fun i _ => m - (intOf i).toNat)
    case atStart => exact ⟨0, 0, Nat.zero_le _, rfl, rfl, rfl⟩
    case round =>
      obtain ⟨k, q, hk, rfl, hall, rfl⟩ := hrel
      replace hall := Lib.hid hall
      by_cases hlt : k < m
      · obtain ⟨b, o, x, rfl, _, hx, c1, c2, c3⟩ := hr.at_ hlt
        obtain ⟨b', o', y, rfl, _, hy, d1, d2, d3⟩ := hs.at_ hlt
        replace hx := Lib.hid hx; replace hy := Lib.hid hy; clear hr hs
        obtain ⟨xr, xf, xt⟩ := x
        obtain ⟨yr, yf, yt⟩ := y
        simp only at c1 c2 c3 d1 d2 d3
        have ek : (k : Int) < (m : Int) := by omega
        by_cases h1 : xr = yr
        · subst h1
          by_cases h2 : xf = yf
          · subst h2
            by_cases h3 : xt = yt
            · subst h3
              go_wp2_with fail
              go_quiet (fail)
              go_wp2_with fail
              go_roundw
              case rel => exact ⟨k + 1, _, by omega, by go_num, by rw [take_snoc hx.out, take_snoc hy.out, hall.out], rfl⟩
              case measure => simp [intOf]; omega
            · go_wp2_with fail
              go_quiet (fail)
              go_wp2_with fail
              go_ret
              refine ⟨ret_bool ?_, _, dN⟩
              rw [← hb.out]; symm; rw [decide_eq_false_iff_not]; intro he
              have hh := hx.out; rw [he, hy.out] at hh
              injection hh with hh; injection hh with e1 e2 e3
              exact h3 e3.symm
          · go_wp2_with fail
            go_quiet (fail)
            go_wp2_with fail
            go_ret
            refine ⟨ret_bool ?_, _, dN⟩
            rw [← hb.out]; symm; rw [decide_eq_false_iff_not]; intro he
            have hh := hx.out; rw [he, hy.out] at hh
            injection hh with hh; injection hh with e1 e2 e3
            exact h2 e2.symm
        · go_wp2_with fail
          go_quiet (fail)
          go_wp2_with fail
          go_ret
          refine ⟨ret_bool ?_, _, dN⟩
          rw [← hb.out]; symm; rw [decide_eq_false_iff_not]; intro he
          have hh := hx.out; rw [he, hy.out] at hh
          injection hh with hh; injection hh with e1 e2 e3
          exact h1 e1.symm
      · rw [Nat.le_antisymm hk (Nat.not_lt.1 hlt)] at hall ⊢
        have hd : Hid (xs = ys) := by have := hall.out; rwa [List.take_of_length_le (by rw [hl.out]; exact Nat.le_refl _), List.take_of_length_le (by rw [hl'.out]; exact Nat.le_refl _)] at this
        clear hr hs
        go_wp2
        go_ret
        exact ⟨ret_bool (by rw [← hb.out, hd.out]; simp), _, rfl⟩
  · have hl1 : ((m : Int) != (m' : Int)) = true := by simp; omega
    go_enter Tryd.func26, Tryd.ntmps26
    go_wp2
    go_ret
    exact ⟨ret_bool (by rw [← hb.out]; symm; rw [decide_eq_false_iff_not]; intro h; exact hmm (by rw [← hl.out, ← hl'.out, h])), 0, rfl⟩
end Go.Proofs.YtfdchnepaaampaaDoor
