/- Walk: the example that each law of this seat checks first answers true. Condition: the library's table of powers stands. -/
import Derived.Test.YtfdchnepaaampaaDoorClkE
import Derived.Test.YtfdchnepaaampaaDoorClkG
import Derived.Test.YtfdchnepaaampaaDoorClkH
import Derived.Test.YtfdchnepaaampaaDoorClkI
import Derived.Test.YtfdchnepaaampaaDoorClkK
import Derived.Test.YtfdchnepaaampaaDoorClkU
namespace Go.Proofs.YtfdchnepaaampaaDoor
set_option linter.unusedSimpArgs false
set_option linter.unusedVariables false
set_option linter.unusedSectionVars false
open Go.RowKit

theorem ex_cmp : compareS [2, 0, 1] [1, 3, 1] = (3, 0) := by decide +kernel
theorem ex_miss : missS [2, 0, 1] [1, 3, 1] = [⟨1, 1, 3⟩] := by decide +kernel
theorem ex_join : foldS max [[2, 0, 1], [1, 3, 1]] = [2, 3, 1] := by decide +kernel
theorem ex_meet : foldS min [[2, 0, 1], [1, 3, 1]] = [1, 0, 1] := by decide +kernel
theorem ex_fmt : fmtS [2, 0, 1] = [91, 50, 32, 48, 32, 49, 93] := by
  have h : validB [2, 0, 1] = true := by decide +kernel
  have e : ∀ n : Int, 0 ≤ n → n < 10 → Lib.itoa n = [UInt8.ofNat (48 + n.toNat)] := fun n h0 h1 => by rw [Lib.itoa, if_neg (by omega), Lib.decDigits_one (by omega)]
  rw [fmtS, h, numsT]
  simp only [List.map_cons, List.map_nil]
  rw [e 2 (by decide) (by decide), e 0 (by decide) (by decide), e 1 (by decide) (by decide)]
  decide +kernel

theorem RI.lit3 (w : World) (a b c : Int) : RI (w.alloc (.cells #[.int .i64 a, .int .i64 b, .int .i64 c] 3)) (some ⟨w.heap.size, 0, none⟩) 3 [a, b, c] := RI.lit w [a, b, c] 3 3 #[.int .i64 a, .int .i64 b, .int .i64 c] rfl rfl (by omega)
theorem equal_w (A B : Option Addr) (n m c d : Nat) (xs ys : List Int) (w : World) (hr : RI w A n xs) (hs : RI w B m ys) (r : Bool) (hb : (xs == ys) = r) :
    Calls Tryd.prog 15 #[.slice A n c, .slice B m d] w fun e w' => e = .returned (.bool r) ∧ Below w.heap.size w w' :=
  (equal_b A B n m c d xs ys w hr hs r hb).mono fun _ _ ⟨he, q, hq⟩ => ⟨he, by rw [hq]; exact below_drewN_self _ _ _⟩
set_option maxHeartbeats 1600000 in
set_option maxRecDepth 100000 in
theorem awake_any (w : World) (ht : Tab w) :
    Calls Tryd.prog 11 #[] w fun e w' => e = .returned (.bool true) ∧ Below w.heap.size w w' := by
  have hw0 : Below w.heap.size w ((w.alloc (.cells #[.int .i64 2, .int .i64 0, .int .i64 1] 3)).alloc (.cells #[.int .i64 1, .int .i64 3, .int .i64 1] 3)) := ((Below.refl _ _).alloc (Nat.le_refl _) _).alloc (by simp) _
  have hA0 : RI ((w.alloc (.cells #[.int .i64 2, .int .i64 0, .int .i64 1] 3)).alloc (.cells #[.int .i64 1, .int .i64 3, .int .i64 1] 3)) (some ⟨w.heap.size, 0, none⟩) 3 [2, 0, 1] := (RI.lit w [2, 0, 1] 3 3 _ rfl rfl (by omega)).alloc _
  have hB0 : RI ((w.alloc (.cells #[.int .i64 2, .int .i64 0, .int .i64 1] 3)).alloc (.cells #[.int .i64 1, .int .i64 3, .int .i64 1] 3)) (some ⟨w.heap.size + 1, 0, none⟩) 3 [1, 3, 1] := by
    have := RI.lit (w.alloc (.cells #[.int .i64 2, .int .i64 0, .int .i64 1] 3)) [1, 3, 1] 3 3 #[.int .i64 1, .int .i64 3, .int .i64 1] rfl rfl (by omega)
    simpa using this
  have ht0 := (ht.below hw0)
  go_enter Tryd.func11, Tryd.ntmps11
  go_wp2_with fail
  refine (compare_b _ _ _ _ _ _ _ _ _ hA0 hB0 _ _ ex_cmp).mono ?_; rintro e w1 ⟨rfl, hb1⟩
  have hA1 := hA0.below hb1; have hB1 := hB0.below hb1; have ht1 := ht0.below hb1
  have hw1 := hw0.trans (hb1.mono hw0.size)
  clear hA0 hB0 ht0 hb1 hw0
  go_wp2_with fail
  refine (missing_any _ _ _ _ _ _ _ _ _ hA1 hB1).mono ?_; rintro e w2 ⟨A2, n2, c2, rfl, hS2, hb2⟩
  rw [ex_miss] at hS2
  have hA2 := hA1.below hb2; have hB2 := hB1.below hb2; have ht2 := ht1.below hb2
  have hw2 := hw1.trans (hb2.mono hw1.size)
  clear hA1 hB1 ht1 hb2 hw1
  obtain rfl : n2 = 1 := hS2.len.symm
  have hL2 := RL.two 3 3 hA2 hB2 25
  have hbl2 : Below w2.heap.size w2 (w2.alloc (.cells #[.slice (some ⟨w.heap.size, 0, none⟩) 3 3, .slice (some ⟨w.heap.size + 1, 0, none⟩) 3 3] 25)) := (Below.refl _ _).alloc (Nat.le_refl _) _
  go_wp2_with fail
  refine (join_any _ _ _ _ _ hL2 (by omega)).mono ?_; rintro e w3 ⟨A3, n3, c3, rfl, hI3, hb3⟩
  rw [ex_join] at hI3
  obtain rfl : n3 = 3 := hI3.len.symm
  have hb23 := hbl2.trans (hb3.mono hbl2.size)
  have hA3 := hA2.below hb23; have hB3 := hB2.below hb23; have ht3 := ht2.below hb23; have hS3 := hS2.below hb23
  have hw3 := hw2.trans (hb23.mono hw2.size)
  clear hA2 hB2 ht2 hS2 hb23 hb3 hbl2 hL2 hw2
  go_wp2_with fail
  refine (equal_w _ _ _ _ _ _ _ _ _ (hI3.alloc _) (RI.lit3 w3 2 3 1) true (by decide)).mono ?_; rintro e w4 ⟨rfl, hbq⟩
  have hb34 : Below w3.heap.size w3 w4 := ((Below.refl _ _).alloc (Nat.le_refl _) _).trans (hbq.mono (by simp))
  have hA4 := hA3.below hb34; have hB4 := hB3.below hb34; have ht4 := ht3.below hb34; have hS4 := hS3.below hb34
  have hw4 := hw3.trans (hb34.mono hw3.size)
  clear hbq hA3 hB3 ht3 hS3 hb34 hw3 hI3
  have hL4 := RL.two 3 3 hA4 hB4 25
  have hbl4 : Below w4.heap.size w4 (w4.alloc (.cells #[.slice (some ⟨w.heap.size, 0, none⟩) 3 3, .slice (some ⟨w.heap.size + 1, 0, none⟩) 3 3] 25)) := (Below.refl _ _).alloc (Nat.le_refl _) _
  go_wp2_with fail
  refine (meet_any _ _ _ _ _ hL4 (by omega)).mono ?_; rintro e w5 ⟨A5, n5, c5, rfl, hI5, hb5⟩
  rw [ex_meet] at hI5
  obtain rfl : n5 = 3 := hI5.len.symm
  have hb45 := hbl4.trans (hb5.mono hbl4.size)
  have hA5 := hA4.below hb45; have ht5 := ht4.below hb45; have hS5 := hS4.below hb45
  have hw5 := hw4.trans (hb45.mono hw4.size)
  clear hA4 hB4 ht4 hS4 hb45 hb5 hbl4 hL4 hw4
  go_wp2_with fail
  refine (equal_w _ _ _ _ _ _ _ _ _ (hI5.alloc _) (RI.lit3 w5 1 0 1) true (by decide)).mono ?_; rintro e w6 ⟨rfl, hbq⟩
  have hb56 : Below w5.heap.size w5 w6 := ((Below.refl _ _).alloc (Nat.le_refl _) _).trans (hbq.mono (by simp))
  have hA6 := hA5.below hb56; have ht6 := ht5.below hb56
  have hw6 := hw5.trans (hb56.mono hw5.size)
  obtain ⟨b, o, s, rfl, _, hs, k1, k2, k3⟩ := (hS5.below hb56).at_ (k := 0) (by omega)
  cases hs
  simp only [Nat.zero_mul, Nat.add_zero] at k1 k2 k3
  clear hbq hA5 ht5 hS5 hb56 hw5 hI5
  go_wp2_with fail
  refine (format_any _ _ _ _ _ hA6 ht6).mono ?_; rintro e w7 ⟨rfl, hb7⟩
  rw [ex_fmt]
  go_wp2_with fail
  go_ret
  exact ⟨rfl, hw6.trans (hb7.mono hw6.size)⟩
end Go.Proofs.YtfdchnepaaampaaDoor
