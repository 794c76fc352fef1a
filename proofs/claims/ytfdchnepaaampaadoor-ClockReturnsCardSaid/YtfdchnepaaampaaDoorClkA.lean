/- Walks: Valid, inside and the references' Valid, Inside, Ints compute the plain functions of the text Spec. Conditions: the arguments read as lists. -/
import Derived.Test.YtfdchnepaaampaaDoorBase
import Derived.Test.YtfdchnepaaampaaDoorSpec
namespace Go.Proofs.YtfdchnepaaampaaDoor
set_option linter.unusedSimpArgs false
set_option linter.unusedVariables false
set_option linter.unusedSectionVars false
open Go.RowKit

set_option maxHeartbeats 400000 in
theorem valid_b (A : Option Addr) (m c : Nat) (xs : List Int) (w : World) (hr : RI w A m xs) (r : Bool) (hb : validB xs = r) :
    Calls Tryd.prog 13 #[.slice A m c] w fun e w' => e = .returned (.bool r) ∧ w = w' := by
  have hm := hr.le
  have hl := Lib.hid hr.len
  replace hb := Lib.hid hb
  go_enter Tryd.func13, Tryd.ntmps13
  go_wp2
  go_loop [7] (fun i => ∃ k : Nat, k ≤ m ∧ i = .int .i64 k ∧ (xs.take k).all ok1 = true) (fun i => m - (intOf i).toNat)
  case atStart => exact ⟨0, Nat.zero_le _, rfl, rfl⟩
  case round =>
    obtain ⟨k, hk, rfl, hall⟩ := hrel
    replace hall := Lib.hid hall
    by_cases hlt : k < m
    · obtain ⟨b, o, n, rfl, hx, hc⟩ := hr.at_ hlt
      replace hx := Lib.hid hx; clear hr
      go_wp2
      · go_ret
        have : ok1 n = false := by simp [ok1]; omega
        exact ⟨ret_bool (by rw [← hb.out]; simp [validB, all_false_of hx.out this]), rfl⟩
      · have : ok1 n = true := by simp [ok1]; omega
        go_round
        case rel => exact ⟨k + 1, by omega, by go_num, all_step hall.out hx.out this⟩
        case measure => simp [intOf]; omega
      · go_ret
        have : ok1 n = false := by simp [ok1]; omega
        exact ⟨ret_bool (by rw [← hb.out]; simp [validB, all_false_of hx.out this]), rfl⟩
    · have hd := Lib.hid (all_done hall.out (by rw [hl.out]; omega))
      clear hr
      go_wp2
      all_goals
        go_ret
        refine ⟨ret_bool ?_, rfl⟩; rw [← hb.out]; simp only [validB, hd.out, hl.out, Bool.true_and]; rw [Bool.eq_iff_iff]; simp; omega

set_option maxHeartbeats 400000 in
theorem rvalid_b (A : Option Addr) (m c : Nat) (xs : List Int) (w : World) (hr : RI w A m xs) (r : Bool) (hb : validB xs = r) :
    Calls Tryd.prog 14 #[.slice A m c] w fun e w' => e = .returned (.bool r) ∧ w = w' := by
  have hm := hr.le
  have hl := Lib.hid hr.len
  replace hb := Lib.hid hb
  go_enter Tryd.func14, Tryd.ntmps14
  go_wp2
  go_loop [3] (fun i => ∃ k : Nat, k ≤ m ∧ i = .int .i64 k ∧ (xs.take k).all ok1 = true) (fun i => m - (intOf i).toNat)
  case atStart => exact ⟨0, Nat.zero_le _, rfl, rfl⟩
  case round =>
    obtain ⟨k, hk, rfl, hall⟩ := hrel
    replace hall := Lib.hid hall
    by_cases hlt : k < m
    · obtain ⟨b, o, n, rfl, hx, hc⟩ := hr.at_ hlt
      replace hx := Lib.hid hx; clear hr
      go_wp2
      · go_ret
        have : ok1 n = false := by simp [ok1]; omega
        exact ⟨ret_bool (by rw [← hb.out]; simp [validB, all_false_of hx.out this]), rfl⟩
      · have : ok1 n = true := by simp [ok1]; omega
        go_round
        case rel => exact ⟨k + 1, by omega, by go_num, all_step hall.out hx.out this⟩
        case measure => simp [intOf]; omega
      · go_ret
        have : ok1 n = false := by simp [ok1]; omega
        exact ⟨ret_bool (by rw [← hb.out]; simp [validB, all_false_of hx.out this]), rfl⟩
    · have hd := Lib.hid (all_done hall.out (by rw [hl.out]; omega))
      clear hr
      go_wp2
      all_goals
        go_ret
        refine ⟨ret_bool ?_, rfl⟩; rw [← hb.out]; simp only [validB, hd.out, hl.out, Bool.true_and]; rw [Bool.eq_iff_iff]; simp; omega

set_option maxHeartbeats 400000 in
theorem inside_any (A B : Option Addr) (m c d : Nat) (xs ys : List Int) (w : World) (hr : RI w A m xs) (hs : RI w B m ys) (r : Bool) (hb : insideB xs ys = r) :
    Calls Tryd.prog 44 #[.slice A m c, .slice B m d] w fun e w' => e = .returned (.bool r) ∧ ∃ n, w' = w.drewN n := by
  have hm := hr.le
  have hl := Lib.hid hr.len
  have hl' := Lib.hid hs.len
  replace hb := Lib.hid hb
  go_enter Tryd.func44, Tryd.ntmps44
  go_wp2
  go_loopw [8] (fun i wr => ∃ k n : Nat, k ≤ m ∧ i = .int .i64 k ∧ ((xs.zip ys).take k).all le2 = true ∧ wr = w.drewN n) (fun i _ => m - (intOf i).toNat)
  case atStart => exact ⟨0, 0, Nat.zero_le _, rfl, rfl, rfl⟩
  case round =>
    obtain ⟨k, q, hk, rfl, hall, rfl⟩ := hrel
    replace hall := Lib.hid hall
    by_cases hlt : k < m
    · obtain ⟨b, o, n, rfl, hx, hc⟩ := hr.at_ hlt
      obtain ⟨b', o', n', rfl, hx', hc'⟩ := hs.at_ hlt
      have hz := Lib.hid (zip_get hx hx'); clear hr hs hx hx'
      go_wp2
      go_quiet (fail)
      go_wp2
      · go_ret
        have : le2 (n, n') = false := by simp [le2]; omega
        exact ⟨ret_bool (by rw [← hb.out]; simp [insideB, all_false_of hz.out this]), _, dN⟩
      · have : le2 (n, n') = true := by simp [le2]; omega
        go_roundw
        case rel => exact ⟨k + 1, _, by omega, by go_num, all_step hall.out hz.out this, rfl⟩
        case measure => simp [intOf]; omega
    · have hd := Lib.hid (all_done hall.out (by rw [List.length_zip, hl.out, hl'.out]; omega))
      clear hr hs
      go_wp2
      go_ret
      exact ⟨ret_bool (by rw [← hb.out]; simp [insideB, hd.out]), _, rfl⟩

set_option maxHeartbeats 400000 in
theorem rinside_any (A B : Option Addr) (m m' c d : Nat) (xs ys : List Int) (w : World) (hr : RI w A m xs) (hs : RI w B m' ys) (r : Bool) (hb : insideB xs ys = r) :
    Calls Tryd.prog 47 #[.slice A m c, .slice B m' d] w fun e w' => e = .returned (.bool r) ∧ ∃ n, w' = w.drewN n := by
  have hm := hr.le
  have hm' := hs.le
  have hl := Lib.hid hr.len
  have hl' := Lib.hid hs.len
  replace hb := Lib.hid hb
  go_enter Tryd.func47, Tryd.ntmps47
  go_wp2
  go_loopw [5] (fun i wr => ∃ k n : Nat, k ≤ m ∧ k ≤ m' ∧ i = .int .i64 k ∧ ((xs.zip ys).take k).all le2 = true ∧ wr = w.drewN n) (fun i _ => m - (intOf i).toNat)
  case atStart => exact ⟨0, 0, Nat.zero_le _, Nat.zero_le _, rfl, rfl, rfl⟩
  case round =>
    obtain ⟨k, q, hk, hk', rfl, hall, rfl⟩ := hrel
    replace hall := Lib.hid hall
    by_cases hlt : k < m ∧ k < m'
    · obtain ⟨hlt, hlt'⟩ := hlt
      obtain ⟨b, o, n, rfl, hx, hc⟩ := hr.at_ hlt
      obtain ⟨b', o', n', rfl, hx', hc'⟩ := hs.at_ hlt'
      have hz := Lib.hid (zip_get hx hx'); clear hr hs hx hx'
      go_wp2
      go_quiet (fail)
      go_wp2
      · go_ret
        have : le2 (n, n') = false := by simp [le2]; omega
        exact ⟨ret_bool (by rw [← hb.out]; simp [insideB, all_false_of hz.out this]), _, dN⟩
      · have : le2 (n, n') = true := by simp [le2]; omega
        go_roundw
        case rel => exact ⟨k + 1, _, by omega, by omega, by go_num, all_step hall.out hz.out this, rfl⟩
        case measure => simp [intOf]; omega
    · have hd := Lib.hid (all_done hall.out (by rw [List.length_zip, hl.out, hl'.out]; omega))
      clear hr hs
      by_cases hlt1 : k < m
      all_goals
        go_wp2
        go_ret
        exact ⟨ret_bool (by rw [← hb.out]; simp [insideB, hd.out]), _, rfl⟩

set_option maxHeartbeats 400000 in
theorem ints_any (A B : Option Addr) (m m' c d : Nat) (xs ys : List Int) (w : World) (hr : RI w A m xs) (hs : RI w B m' ys) (r : Bool) (hb : (xs == ys) = r) :
    Calls Tryd.prog 46 #[.slice A m c, .slice B m' d] w fun e w' => e = .returned (.bool r) ∧ ∃ n, w' = w.drewN n := by
  have hm := hr.le
  have hl := Lib.hid hr.len
  have hl' := Lib.hid hs.len
  replace hb := Lib.hid hb
  by_cases hmm : m = m'
  · subst hmm
    go_enter Tryd.func46, Tryd.ntmps46
    go_wp2
    go_loopw [5] (fun i wr => ∃ k n : Nat, k ≤ m ∧ i = .int .i64 k ∧ xs.take k = ys.take k ∧ wr = w.drewN n) (fun i _ => m - (intOf i).toNat)
    case atStart => exact ⟨0, 0, Nat.zero_le _, rfl, rfl, rfl⟩
    case round =>
      obtain ⟨k, q, hk, rfl, hall, rfl⟩ := hrel
      replace hall := Lib.hid hall
      by_cases hlt : k < m
      · obtain ⟨b, o, n, rfl, hx, hc⟩ := hr.at_ hlt
        obtain ⟨b', o', n', rfl, hx', hc'⟩ := hs.at_ hlt
        replace hx := Lib.hid hx; have hx' := Lib.hid hx'; clear hr hs
        by_cases hne : n = n'
        · subst hne
          go_wp2
          go_quiet (fail)
          go_wp2
          go_roundw
          case rel => exact ⟨k + 1, _, by omega, by go_num, by rw [take_snoc hx.out, take_snoc hx'.out, hall.out], rfl⟩
          case measure => simp [intOf]; omega
        · have h1 : (n != n') = true := by simp [hne]
          go_wp2
          go_quiet (fail)
          go_wp2
          go_ret
          refine ⟨ret_bool ?_, _, dN⟩
          rw [← hb.out]; symm; rw [beq_eq_false_iff_ne]
          intro he
          rw [he] at hx
          have := hx.out.symm.trans hx'.out
          exact hne (by injection this)
      · rw [Nat.le_antisymm hk (Nat.not_lt.1 hlt)] at hall ⊢
        have hd : Hid (xs = ys) := by have := hall.out; rwa [List.take_of_length_le (by rw [hl.out]; exact Nat.le_refl _), List.take_of_length_le (by rw [hl'.out]; exact Nat.le_refl _)] at this
        clear hr hs
        go_wp2
        go_ret
        exact ⟨ret_bool (by rw [← hb.out, hd.out]; simp), _, rfl⟩
  · have hl1 : ((m : Int) != (m' : Int)) = true := by simp; omega
    go_enter Tryd.func46, Tryd.ntmps46
    go_wp2
    go_ret
    exact ⟨ret_bool (by rw [← hb.out]; symm; rw [beq_eq_false_iff_ne]; intro h; exact hmm (by rw [← hl.out, ← hl'.out, h])), 0, rfl⟩
end Go.Proofs.YtfdchnepaaampaaDoor
