/- Walks: Decimal and Format of the clocks' reference. Conditions: the arguments read as lists; numbers from 0 to 1048576. -/
import Derived.Test.YtfdchnepaaampaaDoorClkT
namespace Go.Proofs.YtfdchnepaaampaaDoor
set_option linter.unusedSimpArgs false
set_option linter.unusedVariables false
set_option linter.unusedSectionVars false
open Go.RowKit

theorem dig10 : ∀ d : Fin 10, (⟨#[48, 49, 50, 51, 52, 53, 54, 55, 56, 57]⟩ : ByteArray).extract d.val (d.val + 1) = ⟨[UInt8.ofNat (48 + d.val)].toArray⟩ := by decide +kernel
theorem dec_big {n : Nat} (h : ¬ n < 10) : Lib.decDigits n = Lib.decDigits (n / 10) ++ [UInt8.ofNat (48 + n % 10)] := by rw [Lib.decDigits, dif_neg h]
theorem dec_len {n : Nat} (h : n ≤ 1048576) : (Lib.decDigits n).length ≤ 8 := by
  rw [Lib.decDigits_length]; exact nDigits_le 8 _ (by omega) (by omega)

theorem ret_strb {l : List UInt8} {x : ByteArray} (h : x = ⟨l.toArray⟩) : Ending.returned (.string x) = .returned (.string ⟨l.toArray⟩) := by rw [h]
theorem str_two (x y : List UInt8) : ((⟨x.toArray⟩ : ByteArray) ++ ⟨#[32]⟩) ++ ⟨y.toArray⟩ = ⟨(x ++ ([32] ++ y)).toArray⟩ := by
  rw [show (⟨#[32]⟩ : ByteArray) = ⟨[32].toArray⟩ from rfl, bytes_append, bytes_append, List.append_assoc]

set_option maxHeartbeats 1600000 in
set_option maxRecDepth 100000 in
theorem decimal_nat (N : Nat) : ∀ (n : Nat) (w : World), n ≤ N → n ≤ 1048576 →
    Calls Tryd.prog 55 #[.int .i64 (n : Int)] w fun e w' => e = .returned (.string ⟨(Lib.decDigits n).toArray⟩) ∧ w = w' := by
  induction N with
  | zero =>
    intro n w hN hb
    obtain rfl : n = 0 := by omega
    have hd := Lib.hid (dig10 ⟨0, by omega⟩)
    go_enter Tryd.func55, Tryd.ntmps55
    go_wp2_with fail
    go_ret
    exact ⟨ret_strb (hd.out.trans (by rw [Lib.decDigits_one (by omega)])), rfl⟩
  | succ N ih =>
    intro n w hN hb
    replace ih := Lib.hid ih
    have hd := Lib.hid (dig10 ⟨n % 10, by omega⟩)
    by_cases h10 : n < 10
    · have hx : Hid (Lib.decDigits n = [UInt8.ofNat (48 + n % 10)]) := by show _ = _; rw [Lib.decDigits_one h10, Nat.mod_eq_of_lt h10]
      go_enter Tryd.func55, Tryd.ntmps55
      go_wp2_with fail
      go_ret
      exact ⟨ret_strb (hd.out.trans (by rw [hx.out])), rfl⟩
    · obtain ⟨J, hJ⟩ : ∃ J, Lib.decDigits (n / 10) = J := ⟨_, rfl⟩
      have hJl : J.length ≤ 8 := by rw [← hJ]; exact dec_len (by omega)
      have hx : Hid (Lib.decDigits n = J ++ [UInt8.ofNat (48 + n % 10)]) := by show _ = _; rw [dec_big h10, hJ]
      replace hJ := Lib.hid hJ
      go_enter Tryd.func55, Tryd.ntmps55
      go_wp2_with fail
      rw [show (n : Int) / 10 = ((n / 10 : Nat) : Int) from by omega]
      refine (ih.out (n / 10) _ (by omega) (by omega)).mono ?_
      rw [hJ.out]
      rintro e w' ⟨rfl, rfl⟩
      go_wp2_with fail
      go_ret
      exact ⟨ret_strb (by rw [hx.out, hd.out, bytes_append]), rfl⟩

theorem decimal_any (n : Int) (w : World) (h0 : 0 ≤ n) (h1 : n ≤ 1048576) :
    Calls Tryd.prog 55 #[.int .i64 n] w fun e w' => e = .returned (.string ⟨(Lib.itoa n).toArray⟩) ∧ w = w' := by
  obtain ⟨k, rfl⟩ := Int.eq_ofNat_of_zero_le h0
  have := decimal_nat k k w (Nat.le_refl _) (by omega)
  rwa [Lib.itoa, if_neg (by omega), Int.toNat_natCast]

set_option maxHeartbeats 1600000 in
set_option maxRecDepth 100000 in
theorem rformat_any (A : Option Addr) (m c : Nat) (xs : List Int) (w : World) (hr : RI w A m xs) :
    Calls Tryd.prog 38 #[.slice A m c] w fun e w' => e = .returned (.string ⟨(fmtS xs).toArray⟩) ∧ w = w' := by
  have hm := hr.le
  have hl := Lib.hid hr.len
  cases hv : validB xs with
  | false =>
    have h0 : Hid (fmtS xs = []) := by show _ = _; simp [fmtS, hv]
    replace hv := Lib.hid hv
    go_enter Tryd.func38, Tryd.ntmps38
    go_wp2_with (go_at_call 14; refine (rvalid_b _ _ _ _ _ hr _ hv.out).mono ?_; rintro e w' ⟨rfl, rfl⟩)
    go_ret
    exact ⟨ret_str (by rw [h0.out]), rfl⟩
  | true =>
    have h5 : 1 ≤ m ∧ m ≤ 5 := by simp [validB] at hv; rw [← hl.out]; omega
    have hok : Hid (xs.all ok1 = true) := by show _ = _; simp only [validB, Bool.and_eq_true] at hv; exact hv.1.1
    have h0 : Hid (fmtS xs = 91 :: (numsT xs ++ [93])) := by show _ = _; simp [fmtS, hv]
    replace hv := Lib.hid hv
    go_enter Tryd.func38, Tryd.ntmps38
    go_wp2_with fail
    refine (rvalid_b _ _ _ _ _ hr _ hv.out).mono ?_; rintro e w' ⟨rfl, rfl⟩
    go_wp2_with fail
    go_loop [3, 4] (fun s i => ∃ (k : Nat) (J : List UInt8), k ≤ m ∧ i = .int .i64 k ∧ s = .string ⟨(91 :: J).toArray⟩ ∧ numsT (xs.take k) = J ∧ J.length ≤ 5 * k) (fun _ i => m - (intOf i).toNat)
    case atStart => exact ⟨0, [], Nat.zero_le _, rfl, rfl, rfl, by simp⟩
    case round =>
      obtain ⟨k, J, hk, rfl, rfl, hJ, hJl⟩ := hrel
      replace hJ := Lib.hid hJ
      by_cases hlt : k < m
      · obtain ⟨b, o, n, rfl, hx, hc⟩ := hr.at_ hlt
        have ⟨hn0, hn1⟩ := ok1_of (List.all_eq_true.1 hok.out n (List.mem_of_getElem? hx))
        have hst := numsT_snoc hx
        rw [hJ.out] at hst
        replace hst := Lib.hid hst
        have hD := decimal_any n w hn0 (by omega)
        have hDl := itoa_len hn0 hn1
        obtain ⟨D, hDe⟩ : ∃ D, Lib.itoa n = D := ⟨_, rfl⟩
        rw [hDe] at hD hDl
        replace hD := Lib.hid hD; replace hDe := Lib.hid hDe; replace hx := Lib.hid hx
        clear hr
        by_cases hk0 : k = 0
        · subst hk0
          rw [Nat.add_zero] at hc
          go_wp2_with (go_at_call 55; refine hD.out.mono ?_; rintro e w' ⟨rfl, rfl⟩)
          go_round
          case rel => exact ⟨1, J ++ D, by omega, rfl, by rw [bytes_append]; rfl, by rw [hst.out, hDe.out]; rfl, by rw [List.length_append]; omega⟩
          case measure => simp [intOf]; omega
        · have hk1 : (0 : Int) < (k : Int) := by omega
          go_wp2_with (go_at_call 55; refine hD.out.mono ?_; rintro e w' ⟨rfl, rfl⟩)
          go_round
          case rel => exact ⟨k + 1, J ++ ([32] ++ D), by omega, by go_num, by rw [str_two]; rfl, by rw [hst.out, hDe.out, if_neg hk0], by simp only [List.length_append, List.length_cons, List.length_nil]; omega⟩
          case measure => simp [intOf]; omega
      · have hke : Hid (xs.take k = xs) := by show _ = _; exact List.take_of_length_le (by rw [hl.out]; omega)
        rw [hke.out] at hJ
        clear hr
        go_wp2_with fail
        go_ret
        exact ⟨by rw [h0.out, hJ.out, show (⟨#[93]⟩ : ByteArray) = ⟨[93].toArray⟩ from rfl, bytes_append]; rfl, rfl⟩
end Go.Proofs.YtfdchnepaaampaaDoor
