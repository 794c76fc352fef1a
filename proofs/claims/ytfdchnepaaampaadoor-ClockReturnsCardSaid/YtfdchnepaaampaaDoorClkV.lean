/- Walks: the number ahead of a text, of the clocks' reference. Conditions: none but the text's size. -/
import Derived.Test.YtfdchnepaaampaaDoorClkU
import Derived.Test.YtfdchnepaaampaaDoorSpecP
namespace Go.Proofs.YtfdchnepaaampaaDoor
set_option linter.unusedSimpArgs false
set_option linter.unusedVariables false
set_option linter.unusedSectionVars false
open Go.RowKit

theorem dec_len2 {n : Nat} (h : n ≤ 99999999) : (Lib.decDigits n).length ≤ 8 := by
  rw [Lib.decDigits_length]; exact nDigits_le 8 _ (by omega) (by omega)
set_option maxHeartbeats 1600000 in
set_option maxRecDepth 100000 in
theorem decimal_nat2 (N : Nat) : ∀ (n : Nat) (w : World), n ≤ N → n ≤ 99999999 →
    Calls Tryd.prog 55 #[.int .i64 (n : Int)] w fun e w' => e = .returned (.string ⟨(Lib.decDigits n).toArray⟩) ∧ w = w' := by
  induction N with
  | zero =>
    intro n w hN hb
    obtain rfl : n = 0 := by omega
    have hd := Lib.hid (dig10 ⟨0, by omega⟩)
    go_enter Tryd.func55, Tryd.ntmps55
    go_wp2_with fail
    go_ret
    exact ⟨ret_strb (hd.out.trans (by rw [Lib.decDigits_one (by omega)])), rfl⟩
  | succ N ih =>
    intro n w hN hb
    replace ih := Lib.hid ih
    have hd := Lib.hid (dig10 ⟨n % 10, by omega⟩)
    by_cases h10 : n < 10
    · have hx : Hid (Lib.decDigits n = [UInt8.ofNat (48 + n % 10)]) := by show _ = _; rw [Lib.decDigits_one h10, Nat.mod_eq_of_lt h10]
      go_enter Tryd.func55, Tryd.ntmps55
      go_wp2_with fail
      go_ret
      exact ⟨ret_strb (hd.out.trans (by rw [hx.out])), rfl⟩
    · obtain ⟨J, hJ⟩ : ∃ J, Lib.decDigits (n / 10) = J := ⟨_, rfl⟩
      have hJl : J.length ≤ 8 := by rw [← hJ]; exact dec_len2 (by omega)
      have hx : Hid (Lib.decDigits n = J ++ [UInt8.ofNat (48 + n % 10)]) := by show _ = _; rw [dec_big h10, hJ]
      replace hJ := Lib.hid hJ
      go_enter Tryd.func55, Tryd.ntmps55
      go_wp2_with fail
      rw [show (n : Int) / 10 = ((n / 10 : Nat) : Int) from by omega]
      refine (ih.out (n / 10) _ (by omega) (by omega)).mono ?_
      rw [hJ.out]
      rintro e w' ⟨rfl, rfl⟩
      go_wp2_with fail
      go_ret
      exact ⟨ret_strb (by rw [hx.out, hd.out, bytes_append]), rfl⟩

theorem decimal_any2 (n : Int) (w : World) (h0 : 0 ≤ n) (h1 : n ≤ 99999999) :
    Calls Tryd.prog 55 #[.int .i64 n] w fun e w' => e = .returned (.string ⟨(Lib.itoa n).toArray⟩) ∧ w = w' := by
  obtain ⟨k, rfl⟩ := Int.eq_ofNat_of_zero_le h0
  have := decimal_nat2 k k w (Nat.le_refl _) (by omega)
  rwa [Lib.itoa, if_neg (by omega), Int.toNat_natCast]

theorem btake_snoc (s : ByteArray) (k : Nat) (h : k < s.size) : s.data.toList.take (k + 1) = s.data.toList.take k ++ [s[k]] := by
  rw [List.take_succ_eq_append_getElem (by simpa using h)]; rfl
theorem dv_snoc (l : List UInt8) (c : UInt8) : dv (l ++ [c]) = 10 * dv l + (c.toNat - 48) := by
  unfold dv; rw [dvF_append]; rfl
theorem dv_lt : ∀ (k : Nat) (l : List UInt8), l.length = k → l.all isDig = true → dv l < 10 ^ k := by
  intro k
  induction k with
  | zero => intro l h _; rw [List.eq_nil_of_length_eq_zero h]; decide
  | succ k ih =>
    intro l h hd
    have hne : l ≠ [] := by intro h0; subst h0; simp at h
    have hl := List.dropLast_concat_getLast hne
    rw [← hl] at hd ⊢
    rw [List.all_append, Bool.and_eq_true] at hd
    rw [dv_snoc, Nat.pow_succ]
    have h1 := ih l.dropLast (by rw [List.length_dropLast]; omega) hd.1
    have h2 := hd.2
    simp only [List.all_cons, isDig, Bool.and_eq_true, decide_eq_true_eq] at h2
    omega
theorem dv_le {l : List UInt8} {k : Nat} (hk : k ≤ 7) (h : l.length ≤ k) (hd : l.all isDig = true) : dv l ≤ 9999999 := by
  have h1 := dv_lt _ l rfl hd
  have h2 : 10 ^ l.length ≤ 10 ^ 7 := Nat.pow_le_pow_right (by omega) (by omega)
  omega
theorem tw_self : ∀ {l : List UInt8}, l.all isDig = true → l.takeWhile isDig = l
  | [], _ => rfl
  | a :: l, h => by
    simp only [List.all_cons, Bool.and_eq_true] at h
    rw [List.takeWhile_cons, if_pos h.1, tw_self h.2]
theorem nlead_at {s : List UInt8} {k : Nat} (h : (s.take k).all isDig = true) (hk : k ≤ s.length) : k ≤ nlead s := by
  have hp : (s.take k).takeWhile isDig = s.take k := tw_self h
  have := (List.takeWhile_append (p := isDig) (xs := s.take k) (ys := s.drop k))
  rw [List.take_append_drop, hp] at this
  rw [nlead, this, if_pos rfl]
  simp; omega
theorem nlead_end {s : List UInt8} (h : s.all isDig = true) : nlead s = s.length := by
  rw [nlead, tw_self h]
theorem nlead_stop {s : List UInt8} {k : Nat} (h : (s.take k).all isDig = true) (hk : k < s.length) (hb : isDig s[k] = false) : nlead s = k := by
  have h1 : s = s.take k ++ s[k] :: s.drop (k + 1) := by rw [List.getElem_cons_drop, List.take_append_drop]
  rw [nlead, h1, takeWhile_split h hb, List.length_take]
  omega
theorem extract_takeB (b : ByteArray) (k : Nat) : b.extract 0 k = ⟨(b.data.toList.take k).toArray⟩ := by
  apply ByteArray.ext; apply Array.ext'
  rw [Lib.extract_from_zero]
theorem extract_dropB (b : ByteArray) (k : Nat) : b.extract k b.size = ⟨(b.data.toList.drop k).toArray⟩ := by
  apply ByteArray.ext; apply Array.ext'
  rw [Lib.extract_to_end]
theorem numR_tail {s : List UInt8} {k : Nat} (hk : nlead s = k) : numR s = if k ≤ 7 ∧ 1 ≤ k ∧ Lib.itoa (dv (s.take k)) = s.take k then ((dv (s.take k) : Int), k) else (-1, 0) := by subst hk; rfl
theorem numR_zero {s : List UInt8} (h : nlead s = 0) : numR s = (-1, 0) := by rw [numR_tail h, if_neg (by omega)]
theorem numR_yes (b : ByteArray) {k : Nat} (h : nlead b.data.toList = k) (h7 : k ≤ 7) (h1 : 1 ≤ k) (hq : (Lib.itoa (dv (b.data.toList.take k)) == (b.extract 0 k).toList) = true) : numR b.data.toList = ((dv (b.data.toList.take k) : Int), k) := by
  rw [numR_tail h]
  refine if_pos ⟨h7, h1, ?_⟩
  rw [beq_iff_eq, ByteArray.toList_eq, Lib.extract_from_zero] at hq
  exact hq
theorem numR_no (b : ByteArray) {k : Nat} (h : nlead b.data.toList = k) (hq : (Lib.itoa (dv (b.data.toList.take k)) == (b.extract 0 k).toList) = false) : numR b.data.toList = (-1, 0) := by
  rw [numR_tail h]
  refine if_neg fun hc => ?_
  rw [beq_eq_false_iff_ne, ByteArray.toList_eq, Lib.extract_from_zero] at hq
  exact hq hc.2.2
theorem ret_num {a b c d : Int} (h : (a, b) = (c, d)) : Value.tuple #[.int .i64 a, .int .i64 b] = .tuple #[.int .i64 c, .int .i64 d] := by cases h; rfl

set_option maxHeartbeats 1600000 in
set_option maxRecDepth 100000 in
theorem number_any (b : ByteArray) (w : World) (hs : b.size ≤ 1048576) :
    Calls Tryd.prog 52 #[.string b] w fun e w' => e = .returned (.tuple #[.int .i64 (numR b.data.toList).1, .int .i64 (numR b.data.toList).2]) ∧ ∃ j, w.drewN j = w' := by
  have hsz : Hid (b.data.toList.length = b.size) := by show _ = _; exact Array.length_toList
  go_enter Tryd.func52, Tryd.ntmps52
  go_wp2_with fail
  go_loopw [4, 5] (fun n i wr => ∃ k : Nat, k ≤ b.size ∧ k ≤ 7 ∧ i = .int .i64 k ∧ n = .int .i64 (dv (b.data.toList.take k)) ∧ Hid ((b.data.toList.take k).all isDig = true) ∧ wr = w) (fun _ i _ => b.size - (intOf i).toNat)
  case atStart => exact ⟨0, Nat.zero_le _, Nat.zero_le _, rfl, rfl, (by show _ = _; simp), rfl⟩
  case round =>
    obtain ⟨k, hk, hk7, rfl, rfl, hall, rfl⟩ := hrel
    have hdv := dv_le hk7 (List.length_take_le _ _) hall.out
    by_cases hlt : k < b.size
    · have hsn := dv_snoc (b.data.toList.take k) b[k]
      rw [← btake_snoc b k hlt] at hsn
      have hal : Hid ((48 ≤ b[k].toNat ∧ b[k].toNat ≤ 57) → (b.data.toList.take (k + 1)).all isDig = true) := by
        show _ → _; intro hc; rw [btake_snoc b k hlt, List.all_append, hall.out]; simp [isDig, hc]
      have hst : Hid (¬ (48 ≤ b[k].toNat ∧ b[k].toNat ≤ 57) → nlead b.data.toList = k) := by
        show _ → _; intro hc
        refine nlead_stop hall.out (by rw [hsz.out]; exact hlt) ?_
        show isDig b[k] = false
        cases hx : isDig b[k] with
        | false => rfl
        | true => simp [isDig] at hx; exact absurd hx hc
      replace hsn := Lib.hid hsn
      by_cases hdg : 48 ≤ (b[k].toNat : Int) ∧ (b[k].toNat : Int) ≤ 57
      · have hal1 := Lib.hid (hal.out ⟨by omega, by omega⟩)
        have ⟨hd1, hd2⟩ := hdg
        clear hal hst
        go_wp2_with fail
        · have h8 : 8 ≤ nlead b.data.toList := by
            have := nlead_at hal1.out (by rw [hsz.out]; omega)
            omega
          exact bodyPost_ret (v := .tuple #[.int .i64 (-1), .int .i64 0]) (by simp [results, Tryd.results52, go_sem]) rfl ⟨by rw [numR, if_neg (by omega)]; rfl, 0, rfl⟩
        · go_roundw
          case rel => exact ⟨k + 1, by omega, by omega, by go_num, by rw [hsn.out]; go_num, hal1, trivial⟩
          case measure => simp [intOf]; omega
      · have hnl := Lib.hid (hst.out (by omega))
        clear hal hst
        by_cases h0 : k = 0
        · subst h0
          have hfin := numR_zero hnl.out
          replace hfin := Lib.hid hfin
          go_wp2_with fail
          all_goals
            go_quiet (fail)
            go_wp2
            exact bodyPost_ret (v := .tuple #[.int .i64 (-1), .int .i64 0]) (by simp [results, Tryd.results52, go_sem]) rfl ⟨by rw [hfin.out]; rfl, _, rfl⟩
        · have hkb : ((k : Int) == 0) = false := by simp; omega
          cases hq : (Lib.itoa (dv (b.data.toList.take k)) == (b.extract 0 k).toList) with
          | true =>
            have hfin := Lib.hid (numR_yes b hnl.out hk7 (by omega) hq)
            go_wp2_with fail
            all_goals
              go_quiet ((go_at_call 55; first | exact quiet_left (decimal_any2 _ _ (by omega) (by omega)) | exact quiet_add_left (decimal_any2 _ _ (by omega) (by omega))))
              go_wp2
              exact bodyPost_ret (v := .tuple #[.int .i64 (dv (b.data.toList.take k)), .int .i64 k]) (by simp [results, Tryd.results52, go_sem]) rfl ⟨by rw [hfin.out], _, rfl⟩
          | false =>
            have hfin := Lib.hid (numR_no b hnl.out hq)
            go_wp2_with fail
            all_goals
              go_quiet ((go_at_call 55; first | exact quiet_left (decimal_any2 _ _ (by omega) (by omega)) | exact quiet_add_left (decimal_any2 _ _ (by omega) (by omega))))
              go_wp2
              exact bodyPost_ret (v := .tuple #[.int .i64 (-1), .int .i64 0]) (by simp [results, Tryd.results52, go_sem]) rfl ⟨by rw [hfin.out]; rfl, _, rfl⟩
    · have hnl : Hid (nlead b.data.toList = k) := by
        show _ = _
        obtain rfl : k = b.size := by omega
        have h1 := hall.out
        rw [List.take_of_length_le (by rw [hsz.out]; omega)] at h1
        rw [nlead_end h1, hsz.out]
      by_cases h0 : k = 0
      · subst h0
        have hfin := numR_zero hnl.out
        replace hfin := Lib.hid hfin
        go_wp2_with fail
        all_goals
          go_quiet (fail)
          go_wp2
          exact bodyPost_ret (v := .tuple #[.int .i64 (-1), .int .i64 0]) (by simp [results, Tryd.results52, go_sem]) rfl ⟨by rw [hfin.out]; rfl, _, rfl⟩
      · have hkb : ((k : Int) == 0) = false := by simp; omega
        cases hq : (Lib.itoa (dv (b.data.toList.take k)) == (b.extract 0 k).toList) with
        | true =>
          have hfin := Lib.hid (numR_yes b hnl.out hk7 (by omega) hq)
          go_wp2_with fail
          all_goals
            go_quiet ((go_at_call 55; first | exact quiet_left (decimal_any2 _ _ (by omega) (by omega)) | exact quiet_add_left (decimal_any2 _ _ (by omega) (by omega))))
            go_wp2
            exact bodyPost_ret (v := .tuple #[.int .i64 (dv (b.data.toList.take k)), .int .i64 k]) (by simp [results, Tryd.results52, go_sem]) rfl ⟨by rw [hfin.out], _, rfl⟩
        | false =>
          have hfin := Lib.hid (numR_no b hnl.out hq)
          go_wp2_with fail
          all_goals
            go_quiet ((go_at_call 55; first | exact quiet_left (decimal_any2 _ _ (by omega) (by omega)) | exact quiet_add_left (decimal_any2 _ _ (by omega) (by omega))))
            go_wp2
            exact bodyPost_ret (v := .tuple #[.int .i64 (-1), .int .i64 0]) (by simp [results, Tryd.results52, go_sem]) rfl ⟨by rw [hfin.out]; rfl, _, rfl⟩
end Go.Proofs.YtfdchnepaaampaaDoor
