/- Walk of the law ClockLattice: it answers true. Conditions: the arguments read as lists, the library's table of powers stands. -/
import Derived.Test.YtfdchnepaaampaaDoorLawD
namespace Go.Proofs.YtfdchnepaaampaaDoor
set_option linter.unusedSimpArgs false
set_option linter.unusedVariables false
set_option linter.unusedSectionVars false
open Go.RowKit

set_option maxHeartbeats 6400000 in
set_option maxRecDepth 100000 in
theorem law_lattice (A B C : Option Addr) (n m p c d q : Nat) (xs ys zs : List Int) (w : World) (hr : RI w A n xs) (hs : RI w B m ys) (hu : RI w C p zs) (ht : Tab w) (hnc : n ≤ c) (hmd : m ≤ d) (hpq : p ≤ q) :
    Calls Tryd.prog 4 #[.slice A n c, .slice B m d, .slice C p q] w (Law w) := by
  have hw : Below w.heap.size w w := Below.refl _ _
  have hxl := Lib.hid hr.len
  have hyl := Lib.hid hs.len
  have hzl := Lib.hid hu.len
  have hnl := hr.le
  have hml := hs.le
  have hpl := hu.le
  cases hf : fewB [xs, ys, zs] with
  | false =>
    replace hf := Lib.hid hf
    go_enter Tryd.func4, Tryd.ntmps4
    go_wp2_with fail
    refine (awake_any _ ht).mono ?_
    rintro e w1_ ⟨rfl, hbK⟩
    replace hr := hr.below hbK; replace hs := hs.below hbK; replace hu := hu.below hbK; replace hw := below_next hw hbK
    clear hbK ht
    go_wp2_with fail
    refine (few_b _ _ _ _ _ (RL.three c d q hr hs hu 25) _ hf.out).mono ?_
    rintro e w' ⟨rfl, rfl⟩
    go_wp2_with fail
    go_ret
    exact Law.mk (hw.alloc hw.size _)
  | true =>
    replace hf := Lib.hid hf
    cases hv1 : validB xs with
    | false =>
      replace hv1 := Lib.hid hv1
      go_enter Tryd.func4, Tryd.ntmps4
      go_wp2_with fail
      refine (awake_any _ ht).mono ?_
      rintro e w1_ ⟨rfl, hbK⟩
      replace hr := hr.below hbK; replace hs := hs.below hbK; replace hu := hu.below hbK; replace hw := below_next hw hbK
      clear hbK ht
      go_wp2_with fail
      refine (few_b _ _ _ _ _ (RL.three c d q hr hs hu 25) _ hf.out).mono ?_
      rintro e w' ⟨rfl, rfl⟩
      go_wp2_with fail
      refine (valid_b _ _ _ _ _ (hr.alloc _) _ hv1.out).mono ?_
      rintro e w' ⟨rfl, rfl⟩
      go_wp2_with fail
      go_ret
      exact Law.mk (hw.alloc hw.size _)
    | true =>
      replace hv1 := Lib.hid hv1
      cases hv2 : validB ys with
      | false =>
        replace hv2 := Lib.hid hv2
        go_enter Tryd.func4, Tryd.ntmps4
        go_wp2_with fail
        refine (awake_any _ ht).mono ?_
        rintro e w1_ ⟨rfl, hbK⟩
        replace hr := hr.below hbK; replace hs := hs.below hbK; replace hu := hu.below hbK; replace hw := below_next hw hbK
        clear hbK ht
        go_wp2_with fail
        refine (few_b _ _ _ _ _ (RL.three c d q hr hs hu 25) _ hf.out).mono ?_
        rintro e w' ⟨rfl, rfl⟩
        go_wp2_with fail
        refine (valid_b _ _ _ _ _ (hr.alloc _) _ hv1.out).mono ?_
        rintro e w' ⟨rfl, rfl⟩
        go_wp2_with fail
        refine (valid_b _ _ _ _ _ (hs.alloc _) _ hv2.out).mono ?_
        rintro e w' ⟨rfl, rfl⟩
        go_wp2_with fail
        go_ret
        exact Law.mk (hw.alloc hw.size _)
      | true =>
        replace hv2 := Lib.hid hv2
        cases hv3 : validB zs with
        | false =>
          replace hv3 := Lib.hid hv3
          go_enter Tryd.func4, Tryd.ntmps4
          go_wp2_with fail
          refine (awake_any _ ht).mono ?_
          rintro e w1_ ⟨rfl, hbK⟩
          replace hr := hr.below hbK; replace hs := hs.below hbK; replace hu := hu.below hbK; replace hw := below_next hw hbK
          clear hbK ht
          go_wp2_with fail
          refine (few_b _ _ _ _ _ (RL.three c d q hr hs hu 25) _ hf.out).mono ?_
          rintro e w' ⟨rfl, rfl⟩
          go_wp2_with fail
          refine (valid_b _ _ _ _ _ (hr.alloc _) _ hv1.out).mono ?_
          rintro e w' ⟨rfl, rfl⟩
          go_wp2_with fail
          refine (valid_b _ _ _ _ _ (hs.alloc _) _ hv2.out).mono ?_
          rintro e w' ⟨rfl, rfl⟩
          go_wp2_with fail
          refine (valid_b _ _ _ _ _ (hu.alloc _) _ hv3.out).mono ?_
          rintro e w' ⟨rfl, rfl⟩
          go_wp2_with fail
          go_ret
          exact Law.mk (hw.alloc hw.size _)
        | true =>
          replace hv3 := Lib.hid hv3
          by_cases hnm : n = m
          · subst hnm
            by_cases hnp : n = p
            · subst hnp
              have M := lattice hv1.out hv2.out hv3.out (by rw [hxl.out, hyl.out]) (by rw [hyl.out, hzl.out])
              obtain ⟨J, hJ⟩ : ∃ J, foldS max [xs, ys] = J := ⟨_, rfl⟩
              obtain ⟨K, hK⟩ : ∃ K, foldS min [xs, ys] = K := ⟨_, rfl⟩
              obtain ⟨J3, hJ3⟩ : ∃ J3, foldS max [xs, ys, zs] = J3 := ⟨_, rfl⟩
              obtain ⟨j1, hj1⟩ : ∃ j1, foldS max [ys, zs] = j1 := ⟨_, rfl⟩
              obtain ⟨k1, hk1⟩ : ∃ k1, foldS min [ys, zs] = k1 := ⟨_, rfl⟩
              obtain ⟨b1, hb1⟩ : ∃ b1, insideB xs ys = b1 := ⟨_, rfl⟩
              obtain ⟨b2, hb2⟩ : ∃ b2, insideB ys xs = b2 := ⟨_, rfl⟩
              have m1 := M.join; have m2 := M.meet; have m3 := M.join3; have m4 := M.join3'; have m5 := M.meet3; have m6 := M.abs1; have m7 := M.abs2; have m8 := M.ins; have m9 := M.cmp; have m10 := M.cmp'; have m11 := M.sum; have lj := M.lenj; have lm := M.lenm
              clear M
              rw [hJ] at m1 m3 m7 m8 m11 lj
              rw [hK] at m2 m5 m6 m11 lm
              rw [hJ3] at m3 m4
              rw [hj1] at m4
              rw [hk1] at m5
              rw [hb1, hb2] at m9 m10
              rw [hb1] at m8
              rw [hxl.out] at lj lm
              obtain ⟨k2, hk2⟩ : ∃ k2, foldS min [xs, k1] = k2 := ⟨_, rfl⟩
              rw [hk2] at m5
              obtain ⟨c1, hc1⟩ : ∃ c1, countS J = c1 := ⟨_, rfl⟩
              obtain ⟨c2, hc2⟩ : ∃ c2, countS K = c2 := ⟨_, rfl⟩
              obtain ⟨c3, hc3⟩ : ∃ c3, countS xs = c3 := ⟨_, rfl⟩
              obtain ⟨c4, hc4⟩ : ∃ c4, countS ys = c4 := ⟨_, rfl⟩
              have d1 := count_bd J; have d2 := count_bd K; have d3 := count_bd xs; have d4 := count_bd ys
              rw [hc1] at d1 m11; rw [hc2] at d2 m11; rw [hc3] at d3 m11; rw [hc4] at d4 m11
              have e11 : (c1 + c2 == c3 + c4) = true := by rw [m11]; simp
              replace hJ := Lib.hid hJ; replace hK := Lib.hid hK; replace hJ3 := Lib.hid hJ3; replace hj1 := Lib.hid hj1; replace hk1 := Lib.hid hk1; replace hb1 := Lib.hid hb1; replace hb2 := Lib.hid hb2; replace hk2 := Lib.hid hk2; replace hc1 := Lib.hid hc1; replace hc2 := Lib.hid hc2; replace hc3 := Lib.hid hc3; replace hc4 := Lib.hid hc4
              replace m1 := Lib.hid m1; replace m2 := Lib.hid m2; replace m3 := Lib.hid m3; replace m4 := Lib.hid m4; replace m5 := Lib.hid m5; replace m6 := Lib.hid m6; replace m7 := Lib.hid m7; replace m8 := Lib.hid m8; replace m9 := Lib.hid m9; replace m10 := Lib.hid m10; replace m11 := Lib.hid m11; replace lj := Lib.hid lj; replace lm := Lib.hid lm
              cases b1 <;> cases b2
              all_goals
                go_enter Tryd.func4, Tryd.ntmps4
                go_wp2_with fail
                refine (awake_any _ ht).mono ?_
                rintro e w1_ ⟨rfl, hbK⟩
                replace hr := hr.below hbK; replace hs := hs.below hbK; replace hu := hu.below hbK; replace hw := below_next hw hbK
                clear hbK ht
                go_wp2_with fail
                refine (few_b _ _ _ _ _ (RL.three c d q hr hs hu 25) _ hf.out).mono ?_
                rintro e w' ⟨rfl, rfl⟩
                have hbA : Below w1_.heap.size w1_ (w1_.alloc (.cells #[.slice A n c, .slice B n d, .slice C n q] 25)) := (Below.refl _ _).alloc (Nat.le_refl _) _
                replace hr := hr.below hbA; replace hs := hs.below hbA; replace hu := hu.below hbA; replace hw := below_next hw hbA
                clear hbA
                generalize w1_.alloc (.cells #[.slice A n c, .slice B n d, .slice C n q] 25) = W1 at *
                go_wp2_with fail
                refine (valid_b _ _ _ _ _ hr _ hv1.out).mono ?_
                rintro e w' ⟨rfl, rfl⟩
                go_wp2_with fail
                refine (valid_b _ _ _ _ _ hs _ hv2.out).mono ?_
                rintro e w' ⟨rfl, rfl⟩
                go_wp2_with fail
                refine (valid_b _ _ _ _ _ hu _ hv3.out).mono ?_
                rintro e w' ⟨rfl, rfl⟩
                go_wp2_with fail
                refine (join_any _ _ _ _ _ (RL.two c d hr hs 25) (by omega)).mono ?_
                rintro e w6_ ⟨AJ, nj, cj, rfl, gJ, hbK⟩
                rw [hJ.out] at gJ
                replace hbK := (below_al hbK)
                replace hr := hr.below hbK; replace hs := hs.below hbK; replace hu := hu.below hbK; replace hw := below_next hw hbK
                clear hbK
                go_wp2_with fail
                refine (meet_any _ _ _ _ _ (RL.two c d hr hs 25) (by omega)).mono ?_
                rintro e w7_ ⟨AK, nk, ck, rfl, gK, hbK⟩
                rw [hK.out] at gK
                replace hbK := (below_al hbK)
                replace hr := hr.below hbK; replace hs := hs.below hbK; replace hu := hu.below hbK; replace gJ := gJ.below hbK; replace hw := below_next hw hbK
                clear hbK
                go_wp2_with fail
                refine (join_any _ _ _ _ _ (RL.two d c hs hr 25) (by omega)).mono ?_
                rintro e w8_ ⟨A1, n1, c1', rfl, g1, hbK⟩
                rw [m1.out] at g1
                replace hbK := (below_al hbK)
                replace hr := hr.below hbK; replace hs := hs.below hbK; replace hu := hu.below hbK; replace gJ := gJ.below hbK; replace gK := gK.below hbK; replace hw := below_next hw hbK
                clear hbK
                go_wp2_with fail
                refine (equal_w _ _ _ _ _ _ _ _ _ gJ g1 true (by simp)).mono ?_
                rintro e w9_ ⟨rfl, hbK⟩
                replace hr := hr.below hbK; replace hs := hs.below hbK; replace hu := hu.below hbK; replace gJ := gJ.below hbK; replace gK := gK.below hbK; replace hw := below_next hw hbK
                clear hbK g1
                go_wp2_with fail
                refine (meet_any _ _ _ _ _ (RL.two d c hs hr 25) (by omega)).mono ?_
                rintro e w10_ ⟨A1, n1, c1', rfl, g1, hbK⟩
                rw [m2.out] at g1
                replace hbK := (below_al hbK)
                replace hr := hr.below hbK; replace hs := hs.below hbK; replace hu := hu.below hbK; replace gJ := gJ.below hbK; replace gK := gK.below hbK; replace hw := below_next hw hbK
                clear hbK
                go_wp2_with fail
                refine (equal_w _ _ _ _ _ _ _ _ _ gK g1 true (by simp)).mono ?_
                rintro e w11_ ⟨rfl, hbK⟩
                replace hr := hr.below hbK; replace hs := hs.below hbK; replace hu := hu.below hbK; replace gJ := gJ.below hbK; replace gK := gK.below hbK; replace hw := below_next hw hbK
                clear hbK g1
                go_wp2_with fail
                refine (join_any _ _ _ _ _ (RL.two cj q gJ hu 25) (by omega)).mono ?_
                rintro e w12_ ⟨A1, n1, c1', rfl, g1, hbK⟩
                rw [m3.out] at g1
                replace hbK := (below_al hbK)
                replace hr := hr.below hbK; replace hs := hs.below hbK; replace hu := hu.below hbK; replace gJ := gJ.below hbK; replace gK := gK.below hbK; replace hw := below_next hw hbK
                clear hbK
                go_wp2_with fail
                refine (join_any _ _ _ _ _ (RL.three c d q hr hs hu 25) (by omega)).mono ?_
                rintro e w13_ ⟨A2, n2, c2', rfl, g2, hbK⟩
                rw [hJ3.out] at g2
                replace hbK := (below_al hbK)
                replace hr := hr.below hbK; replace hs := hs.below hbK; replace hu := hu.below hbK; replace gJ := gJ.below hbK; replace gK := gK.below hbK; replace g1 := g1.below hbK; replace hw := below_next hw hbK
                clear hbK
                go_wp2_with fail
                refine (equal_w _ _ _ _ _ _ _ _ _ g1 g2 true (by simp)).mono ?_
                rintro e w14_ ⟨rfl, hbK⟩
                replace hr := hr.below hbK; replace hs := hs.below hbK; replace hu := hu.below hbK; replace gJ := gJ.below hbK; replace gK := gK.below hbK; replace hw := below_next hw hbK
                clear hbK g1 g2
                go_wp2_with fail
                refine (join_any _ _ _ _ _ (RL.two d q hs hu 25) (by omega)).mono ?_
                rintro e w15_ ⟨A1, n1, c1', rfl, g1, hbK⟩
                rw [hj1.out] at g1
                replace hbK := (below_al hbK)
                replace hr := hr.below hbK; replace hs := hs.below hbK; replace hu := hu.below hbK; replace gJ := gJ.below hbK; replace gK := gK.below hbK; replace hw := below_next hw hbK
                clear hbK
                go_wp2_with fail
                refine (join_any _ _ _ _ _ (RL.two c c1' hr g1 25) (by omega)).mono ?_
                rintro e w16_ ⟨A2, n2, c2', rfl, g2, hbK⟩
                rw [m4.out] at g2
                replace hbK := (below_al hbK)
                replace hr := hr.below hbK; replace hs := hs.below hbK; replace hu := hu.below hbK; replace gJ := gJ.below hbK; replace gK := gK.below hbK; replace hw := below_next hw hbK
                clear hbK g1
                go_wp2_with fail
                refine (join_any _ _ _ _ _ (RL.three c d q hr hs hu 25) (by omega)).mono ?_
                rintro e w17_ ⟨A1, n1, c1', rfl, g1, hbK⟩
                rw [hJ3.out] at g1
                replace hbK := (below_al hbK)
                replace hr := hr.below hbK; replace hs := hs.below hbK; replace hu := hu.below hbK; replace gJ := gJ.below hbK; replace gK := gK.below hbK; replace g2 := g2.below hbK; replace hw := below_next hw hbK
                clear hbK
                go_wp2_with fail
                refine (equal_w _ _ _ _ _ _ _ _ _ g2 g1 true (by simp)).mono ?_
                rintro e w18_ ⟨rfl, hbK⟩
                replace hr := hr.below hbK; replace hs := hs.below hbK; replace hu := hu.below hbK; replace gJ := gJ.below hbK; replace gK := gK.below hbK; replace hw := below_next hw hbK
                clear hbK g1 g2
                go_wp2_with fail
                refine (meet_any _ _ _ _ _ (RL.two ck q gK hu 25) (by omega)).mono ?_
                rintro e w19_ ⟨A1, n1, c1', rfl, g1, hbK⟩
                rw [m5.out] at g1
                replace hbK := (below_al hbK)
                replace hr := hr.below hbK; replace hs := hs.below hbK; replace hu := hu.below hbK; replace gJ := gJ.below hbK; replace gK := gK.below hbK; replace hw := below_next hw hbK
                clear hbK
                go_wp2_with fail
                refine (meet_any _ _ _ _ _ (RL.two d q hs hu 25) (by omega)).mono ?_
                rintro e w20_ ⟨A2, n2, c2', rfl, g2, hbK⟩
                rw [hk1.out] at g2
                replace hbK := (below_al hbK)
                replace hr := hr.below hbK; replace hs := hs.below hbK; replace hu := hu.below hbK; replace gJ := gJ.below hbK; replace gK := gK.below hbK; replace g1 := g1.below hbK; replace hw := below_next hw hbK
                clear hbK
                go_wp2_with fail
                refine (meet_any _ _ _ _ _ (RL.two c c2' hr g2 25) (by omega)).mono ?_
                rintro e w21_ ⟨A3, n3, c3', rfl, g3, hbK⟩
                rw [hk2.out] at g3
                replace hbK := (below_al hbK)
                replace hr := hr.below hbK; replace hs := hs.below hbK; replace hu := hu.below hbK; replace gJ := gJ.below hbK; replace gK := gK.below hbK; replace g1 := g1.below hbK; replace hw := below_next hw hbK
                clear hbK g2
                go_wp2_with fail
                refine (equal_w _ _ _ _ _ _ _ _ _ g1 g3 true (by simp)).mono ?_
                rintro e w22_ ⟨rfl, hbK⟩
                replace hr := hr.below hbK; replace hs := hs.below hbK; replace hu := hu.below hbK; replace gJ := gJ.below hbK; replace gK := gK.below hbK; replace hw := below_next hw hbK
                clear hbK g1 g3
                go_wp2_with fail
                refine (join_any _ _ _ _ _ (RL.two c ck hr gK 25) (by omega)).mono ?_
                rintro e w23_ ⟨A1, n1, c1', rfl, g1, hbK⟩
                rw [m6.out] at g1
                replace hbK := (below_al hbK)
                replace hr := hr.below hbK; replace hs := hs.below hbK; replace hu := hu.below hbK; replace gJ := gJ.below hbK; replace gK := gK.below hbK; replace hw := below_next hw hbK
                clear hbK
                go_wp2_with fail
                refine (equal_w _ _ _ _ _ _ _ _ _ g1 hr true (by simp)).mono ?_
                rintro e w24_ ⟨rfl, hbK⟩
                replace hr := hr.below hbK; replace hs := hs.below hbK; replace hu := hu.below hbK; replace gJ := gJ.below hbK; replace gK := gK.below hbK; replace hw := below_next hw hbK
                clear hbK g1
                go_wp2_with fail
                refine (meet_any _ _ _ _ _ (RL.two c cj hr gJ 25) (by omega)).mono ?_
                rintro e w25_ ⟨A1, n1, c1', rfl, g1, hbK⟩
                rw [m7.out] at g1
                replace hbK := (below_al hbK)
                replace hr := hr.below hbK; replace hs := hs.below hbK; replace hu := hu.below hbK; replace gJ := gJ.below hbK; replace gK := gK.below hbK; replace hw := below_next hw hbK
                clear hbK
                go_wp2_with fail
                refine (equal_w _ _ _ _ _ _ _ _ _ g1 hr true (by simp)).mono ?_
                rintro e w26_ ⟨rfl, hbK⟩
                replace hr := hr.below hbK; replace hs := hs.below hbK; replace hu := hu.below hbK; replace gJ := gJ.below hbK; replace gK := gK.below hbK; replace hw := below_next hw hbK
                clear hbK g1
                go_wp2_with fail
                refine (compare_b _ _ _ _ _ _ _ _ _ hr hs _ _ m9.out).mono ?_
                rintro e w27_ ⟨rfl, hbK⟩
                replace hr := hr.below hbK; replace hs := hs.below hbK; replace hu := hu.below hbK; replace gJ := gJ.below hbK; replace gK := gK.below hbK; replace hw := below_next hw hbK
                clear hbK
                go_wp2_with fail
                refine (compare_b _ _ _ _ _ _ _ _ _ hs hr _ _ m10.out).mono ?_
                rintro e w28_ ⟨rfl, hbK⟩
                replace hr := hr.below hbK; replace hs := hs.below hbK; replace hu := hu.below hbK; replace gJ := gJ.below hbK; replace gK := gK.below hbK; replace hw := below_next hw hbK
                clear hbK
                go_wp2_with fail
                refine (equal_w _ _ _ _ _ _ _ _ _ gJ hs _ m8.out).mono ?_
                rintro e w29_ ⟨rfl, hbK⟩
                replace hr := hr.below hbK; replace hs := hs.below hbK; replace hu := hu.below hbK; replace gJ := gJ.below hbK; replace gK := gK.below hbK; replace hw := below_next hw hbK
                clear hbK
                go_wp2_with fail
                refine (count_v _ _ _ _ _ gJ _ hc1.out).mono ?_
                rintro e w30_ ⟨rfl, hbK⟩
                replace hr := hr.below hbK; replace hs := hs.below hbK; replace hu := hu.below hbK; replace gJ := gJ.below hbK; replace gK := gK.below hbK; replace hw := below_next hw hbK
                clear hbK
                go_wp2_with fail
                refine (count_v _ _ _ _ _ gK _ hc2.out).mono ?_
                rintro e w31_ ⟨rfl, hbK⟩
                replace hr := hr.below hbK; replace hs := hs.below hbK; replace hu := hu.below hbK; replace gJ := gJ.below hbK; replace gK := gK.below hbK; replace hw := below_next hw hbK
                clear hbK
                go_wp2_with fail
                refine (count_v _ _ _ _ _ hr _ hc3.out).mono ?_
                rintro e w32_ ⟨rfl, hbK⟩
                replace hr := hr.below hbK; replace hs := hs.below hbK; replace hu := hu.below hbK; replace gJ := gJ.below hbK; replace gK := gK.below hbK; replace hw := below_next hw hbK
                clear hbK
                go_wp2_with fail
                refine (count_v _ _ _ _ _ hs _ hc4.out).mono ?_
                rintro e w33_ ⟨rfl, hbK⟩
                replace hr := hr.below hbK; replace hs := hs.below hbK; replace hu := hu.below hbK; replace gJ := gJ.below hbK; replace gK := gK.below hbK; replace hw := below_next hw hbK
                clear hbK
                go_wp2_with fail
                go_ret
                exact Law.mk hw
            · have hl1 : ((n : Int) != (p : Int)) = true := by simp; omega
              go_enter Tryd.func4, Tryd.ntmps4
              go_wp2_with fail
              refine (awake_any _ ht).mono ?_
              rintro e w1_ ⟨rfl, hbK⟩
              replace hr := hr.below hbK; replace hs := hs.below hbK; replace hu := hu.below hbK; replace hw := below_next hw hbK
              clear hbK ht
              go_wp2_with fail
              refine (few_b _ _ _ _ _ (RL.three c d q hr hs hu 25) _ hf.out).mono ?_
              rintro e w' ⟨rfl, rfl⟩
              go_wp2_with fail
              refine (valid_b _ _ _ _ _ (hr.alloc _) _ hv1.out).mono ?_
              rintro e w' ⟨rfl, rfl⟩
              go_wp2_with fail
              refine (valid_b _ _ _ _ _ (hs.alloc _) _ hv2.out).mono ?_
              rintro e w' ⟨rfl, rfl⟩
              go_wp2_with fail
              refine (valid_b _ _ _ _ _ (hu.alloc _) _ hv3.out).mono ?_
              rintro e w' ⟨rfl, rfl⟩
              go_wp2_with fail
              go_ret
              exact Law.mk (hw.alloc hw.size _)
          · have hl1 : ((n : Int) != (m : Int)) = true := by simp; omega
            go_enter Tryd.func4, Tryd.ntmps4
            go_wp2_with fail
            refine (awake_any _ ht).mono ?_
            rintro e w1_ ⟨rfl, hbK⟩
            replace hr := hr.below hbK; replace hs := hs.below hbK; replace hu := hu.below hbK; replace hw := below_next hw hbK
            clear hbK ht
            go_wp2_with fail
            refine (few_b _ _ _ _ _ (RL.three c d q hr hs hu 25) _ hf.out).mono ?_
            rintro e w' ⟨rfl, rfl⟩
            go_wp2_with fail
            refine (valid_b _ _ _ _ _ (hr.alloc _) _ hv1.out).mono ?_
            rintro e w' ⟨rfl, rfl⟩
            go_wp2_with fail
            refine (valid_b _ _ _ _ _ (hs.alloc _) _ hv2.out).mono ?_
            rintro e w' ⟨rfl, rfl⟩
            go_wp2_with fail
            refine (valid_b _ _ _ _ _ (hu.alloc _) _ hv3.out).mono ?_
            rintro e w' ⟨rfl, rfl⟩
            go_wp2_with fail
            go_ret
            exact Law.mk (hw.alloc hw.size _)
end Go.Proofs.YtfdchnepaaampaaDoor
