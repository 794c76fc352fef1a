/- Walk of the law ClockMissing: it answers true. Conditions: the arguments read as lists, the library's table of powers stands. -/
import Derived.Test.YtfdchnepaaampaaDoorLawD
import Derived.Test.YtfdchnepaaampaaDoorSpecM
namespace Go.Proofs.YtfdchnepaaampaaDoor
set_option linter.unusedSimpArgs false
set_option linter.unusedVariables false
set_option linter.unusedSectionVars false
open Go.RowKit

theorem any_snoc {α : Type} {p : α → Bool} {xs : List α} {k : Nat} {n : α} (h : xs[k]? = some n) : (xs.take (k + 1)).any p = ((xs.take k).any p || p n) := by
  rw [take_snoc h, List.any_append]; simp
theorem lens_take {l : List Sp} {k : Nat} {s : Sp} (h : l[k]? = some s) : lens (l.take (k + 1)) = lens (l.take k) + lenSp s := by rw [take_snoc h, lens_snoc]

set_option maxHeartbeats 6400000 in
set_option maxRecDepth 100000 in
theorem law_missing (A B : Option Addr) (n m c d : Nat) (xs ys : List Int) (dr dn : Int) (w : World) (hr : RI w A n xs) (hs : RI w B m ys) (ht : Tab w) :
    Calls Tryd.prog 7 #[.slice A n c, .slice B m d, .agg #[.int .i64 dr, .int .i64 dn]] w (Law w) := by
  have hw : Below w.heap.size w (w.alloc (.cells #[.int .i64 dr, .int .i64 dn] 47)) := (Below.refl _ _).alloc (Nat.le_refl _) _
  replace ht := ht.alloc (.cells #[.int .i64 dr, .int .i64 dn] 47); replace hr := hr.alloc (.cells #[.int .i64 dr, .int .i64 dn] 47); replace hs := hs.alloc (.cells #[.int .i64 dr, .int .i64 dn] 47)
  have k0 : (w.alloc (.cells #[.int .i64 dr, .int .i64 dn] 47)).cell? ⟨w.heap.size, 0, none⟩ = some (.int .i64 dr) := by simp
  have k1 : (w.alloc (.cells #[.int .i64 dr, .int .i64 dn] 47)).cell? ⟨w.heap.size, 1, none⟩ = some (.int .i64 dn) := by simp
  have hxl := Lib.hid hr.len
  have hyl := Lib.hid hs.len
  have hnl := hr.le
  have hml := hs.le
  have hva : Hid (validB xs = true ∨ validB xs = false) := by show _ ∨ _; cases validB xs <;> simp
  cases hf : fewB [xs, ys] with
  | false =>
    replace hf := Lib.hid hf
    go_enter Tryd.func7, Tryd.ntmps7
    go_wp2_with fail
    refine (awake_any _ ht).mono ?_
    rintro e w1_ ⟨rfl, hbK⟩
    replace hr := hr.below hbK; replace hs := hs.below hbK; replace k0 := cell_later hbK k0; replace k1 := cell_later hbK k1; replace hw := below_next hw hbK
    clear hbK ht
    go_wp2_with fail
    refine (few_b _ _ _ _ _ (RL.two c d hr hs 25) _ hf.out).mono ?_
    rintro e w' ⟨rfl, rfl⟩
    go_wp2_with fail
    go_ret
    exact Law.mk (hw.alloc hw.size _)
  | true =>
    replace hf := Lib.hid hf
    cases hv : validB xs with
    | false =>
      replace hv := Lib.hid hv
      go_enter Tryd.func7, Tryd.ntmps7
      go_wp2_with fail
      refine (awake_any _ ht).mono ?_
      rintro e w1_ ⟨rfl, hbK⟩
      replace hr := hr.below hbK; replace hs := hs.below hbK; replace k0 := cell_later hbK k0; replace k1 := cell_later hbK k1; replace hw := below_next hw hbK
      clear hbK ht
      go_wp2_with fail
      refine (few_b _ _ _ _ _ (RL.two c d hr hs 25) _ hf.out).mono ?_
      rintro e w' ⟨rfl, rfl⟩
      go_wp2_with fail
      refine (valid_b _ _ _ _ _ (hr.alloc _) _ hv.out).mono ?_
      rintro e w' ⟨rfl, rfl⟩
      go_wp2_with fail
      go_ret
      exact Law.mk (hw.alloc hw.size _)
    | true =>
      replace hv := Lib.hid hv
      cases hv' : validB ys with
      | false =>
        replace hv' := Lib.hid hv'
        go_enter Tryd.func7, Tryd.ntmps7
        go_wp2_with fail
        refine (awake_any _ ht).mono ?_
        rintro e w1_ ⟨rfl, hbK⟩
        replace hr := hr.below hbK; replace hs := hs.below hbK; replace k0 := cell_later hbK k0; replace k1 := cell_later hbK k1; replace hw := below_next hw hbK
        clear hbK ht
        go_wp2_with fail
        refine (few_b _ _ _ _ _ (RL.two c d hr hs 25) _ hf.out).mono ?_
        rintro e w' ⟨rfl, rfl⟩
        go_wp2_with fail
        refine (valid_b _ _ _ _ _ (hr.alloc _) _ hv.out).mono ?_
        rintro e w' ⟨rfl, rfl⟩
        go_wp2_with fail
        refine (valid_b _ _ _ _ _ (hs.alloc _) _ hv'.out).mono ?_
        rintro e w' ⟨rfl, rfl⟩
        go_wp2_with fail
        go_ret
        exact Law.mk (hw.alloc hw.size _)
      | true =>
        replace hv' := Lib.hid hv'
        by_cases hnm : n = m
        · subst hnm
          have M := missing hv.out hv'.out (by rw [hxl.out, hyl.out]) dr dn
          obtain ⟨q1, hq1⟩ : ∃ q1, hasS xs dr dn = q1 := ⟨_, rfl⟩
          obtain ⟨q2, hq2⟩ : ∃ q2, hasS ys dr dn = q2 := ⟨_, rfl⟩
          obtain ⟨J, hJ⟩ : ∃ J, foldS max [xs, ys] = J := ⟨_, rfl⟩
          obtain ⟨L, hL⟩ : ∃ L, missS xs ys = L := ⟨_, rfl⟩
          obtain ⟨ca, hca⟩ : ∃ ca, countS xs = ca := ⟨_, rfl⟩
          obtain ⟨cj, hcj⟩ : ∃ cj, countS J = cj := ⟨_, rfl⟩
          have hadd := M.add
          have hbd := M.bd
          have hinc := M.inc
          have hany := M.any
          have hsum := M.sum
          have hlen := M.len
          rw [hJ, hL] at hadd
          rw [hL] at hbd hinc hany hsum hlen
          rw [hq1, hq2] at hany
          rw [hJ, hcj, hca] at hsum
          have hcab := count_bd xs
          have hcjb := count_bd J
          rw [hca] at hcab
          rw [hcj] at hcjb
          replace hadd := Lib.hid hadd; replace hbd := Lib.hid hbd; replace hinc := Lib.hid hinc; replace hany := Lib.hid hany; replace hsum := Lib.hid hsum
          replace hq1 := Lib.hid hq1; replace hq2 := Lib.hid hq2; replace hJ := Lib.hid hJ; replace hL := Lib.hid hL; replace hca := Lib.hid hca; replace hcj := Lib.hid hcj
          clear M hva
          go_enter Tryd.func7, Tryd.ntmps7
          go_wp2_with fail
          refine (awake_any _ ht).mono ?_
          rintro e w1_ ⟨rfl, hbK⟩
          replace hr := hr.below hbK; replace hs := hs.below hbK; replace k0 := cell_later hbK k0; replace k1 := cell_later hbK k1; replace hw := below_next hw hbK
          clear hbK ht
          go_wp2_with fail
          refine (few_b _ _ _ _ _ (RL.two c d hr hs 25) _ hf.out).mono ?_
          rintro e w' ⟨rfl, rfl⟩
          go_wp2_with fail
          refine (valid_b _ _ _ _ _ (hr.alloc _) _ hv.out).mono ?_
          rintro e w' ⟨rfl, rfl⟩
          go_wp2_with fail
          refine (valid_b _ _ _ _ _ (hs.alloc _) _ hv'.out).mono ?_
          rintro e w' ⟨rfl, rfl⟩
          go_wp2_with fail
          refine (missing_any _ _ _ _ _ _ _ _ _ (hr.alloc _) (hs.alloc _)).mono ?_
          rintro e w5_ ⟨A5, p, c5, rfl, hS, hbK⟩
          rw [hL.out] at hS
          replace hbK := (below_al hbK)
          replace hr := hr.below hbK; replace hs := hs.below hbK; replace k0 := cell_later hbK k0; replace k1 := cell_later hbK k1; replace hw := below_next hw hbK
          clear hbK
          go_wp2_with fail
          refine (add_any _ _ _ _ _ _ _ _ _ hr hS).mono ?_
          rintro e w6_ ⟨A6, n6, c6, rfl, hI, hbK⟩
          rw [hadd.out] at hI ⊢
          replace hr := hr.below hbK; replace hs := hs.below hbK; replace hS := hS.below hbK; replace k0 := cell_later hbK k0; replace k1 := cell_later hbK k1; replace hw := below_next hw hbK
          clear hbK
          go_wp2_with fail
          refine (join_any _ _ _ _ _ (RL.two c d hr hs 25) (by omega)).mono ?_
          rintro e w7_ ⟨A7, n7, c7, rfl, hI7, hbK⟩
          rw [hJ.out] at hI7
          replace hbK := (below_al hbK)
          replace hr := hr.below hbK; replace hs := hs.below hbK; replace hS := hS.below hbK; replace hI := hI.below hbK; replace k0 := cell_later hbK k0; replace k1 := cell_later hbK k1; replace hw := below_next hw hbK
          clear hbK
          go_wp2_with fail
          refine (equal_w _ _ _ _ _ _ _ _ _ hI hI7 true (by simp)).mono ?_
          rintro e w8_ ⟨rfl, hbK⟩
          replace hr := hr.below hbK; replace hs := hs.below hbK; replace hS := hS.below hbK; replace hI := hI.below hbK; replace k0 := cell_later hbK k0; replace k1 := cell_later hbK k1; replace hw := below_next hw hbK
          clear hbK hI7
          go_wp2_with fail
          have hpl : p ≤ 5 := by have := hS.len; omega
          have hLl := Lib.hid hS.len
          go_loopw [10, 11, 60] (fun f t i wr => ∃ (k : Nat) (q : Int) (fb : Bool), k ≤ p ∧ i = .int .i64 k ∧ f = .bool fb ∧ t = .int .i64 q ∧ (L.take k).any (inSp dr dn) = fb ∧ lens (L.take k) = q ∧ 0 ≤ q ∧ q ≤ 1024 * k ∧ Below w8_.heap.size w8_ wr) (fun _ _ i _ => p - (intOf i).toNat)
          case atStart => exact ⟨0, 0, false, Nat.zero_le _, rfl, rfl, rfl, rfl, rfl, by omega, by omega, Below.refl _ _⟩
          case round =>
            obtain ⟨k, q, fb, hk, rfl, rfl, rfl, hfb, hq, hq0, hqb, hbk⟩ := hrel
            replace hfb := Lib.hid hfb; replace hq := Lib.hid hq
            by_cases hlt : k < p
            · obtain ⟨b, o, s, rfl, hbw, hx, c1, c2, c3⟩ := (hS.below hbk).at_ hlt
              have hsb := hbd.out s (List.mem_of_getElem? hx)
              have han := Lib.hid (any_snoc (p := inSp dr dn) hx)
              have hle := Lib.hid (lens_take hx)
              obtain ⟨sr, sf, st⟩ := s
              simp only at c1 c2 c3 hsb
              have hc2 : Hid (lens (L.take (k + 1)) = q + (st - sf + 1)) := by show _ = _; rw [hle.out, hq.out]; rfl
              have hbx : ∀ (X : Obj) (N : Nat), Below w8_.heap.size w8_ ((wr.alloc X).drewN N) := fun X N => below_drewN (hbk.alloc hbk.size X) N
              replace hbx := Lib.hid hbx
              have k0' := cell_later hbk k0
              have k1' := cell_later hbk k1
              have hbD : w.heap.size < wr.heap.size := World.block_lt_of_cell? wr _ k0'
              have k0a := cell_alloc hbD k0' (.cells #[.int .i64 sr, .int .i64 sf, .int .i64 st] 43)
              have k1a := cell_alloc hbD k1' (.cells #[.int .i64 sr, .int .i64 sf, .int .i64 st] 43)
              have hprev : k = 0 ∨ ∃ sp : Int, 0 < k ∧ sp < sr ∧ wr.cell? ⟨b, o + (k - 1) * 3, none⟩ = some (.int .i64 sp) ∧ (wr.alloc (.cells #[.int .i64 sr, .int .i64 sf, .int .i64 st] 43)).cell? ⟨b, o + (k - 1) * 3, none⟩ = some (.int .i64 sp) := by
                rcases Nat.eq_zero_or_pos k with h0 | h0
                · exact .inl h0
                · obtain ⟨b', o', s', e', _, hx', d1, _, _⟩ := (hS.below hbk).at_ (k := k - 1) (by omega)
                  cases e'
                  have hlt' := hinc.out (k - 1) s' ⟨sr, sf, st⟩ hx' (by rw [show k - 1 + 1 = k by omega]; exact hx)
                  exact .inr ⟨s'.r, h0, hlt', d1, cell_alloc hbw d1 _⟩
              replace hx := Lib.hid hx
              clear hS hr hs hI hw k0 k1 hbk
              have ewr1 : IntKind.i64.wrap (st - sf) = st - sf := IntWalk.i64_in _ (by omega)
              rcases hprev with rfl | ⟨sp, hk0, hsp, cp, cp'⟩
              · simp only [Nat.zero_mul, Nat.add_zero] at c1 c2 c3
                go_wp2_with fail
                go_quiet (fail)
                go_wp2_with fail
                all_goals
                  go_roundw
                  case rel => exact ⟨1, q + (st - sf + 1), _, by omega, by rfl, rfl, rfl, by rw [han.out, hfb.out]; simp [inSp, *], hc2.out, by omega, by omega, hbx.out _ _⟩
                  case measure => simp [intOf]; omega
              · have ek : (0 : Int) < (k : Int) := by omega
                have ewk : IntKind.i64.wrap ((k : Int) - 1) = (k : Int) - 1 := IntWalk.i64_in _ (by omega)
                have etn : ((k : Int) - 1).toNat = k - 1 := by omega
                have e0 : (0 : Int) ≤ (k : Int) - 1 := by omega
                go_wp2_with fail
                go_quiet (fail)
                go_wp2_with fail
                all_goals
                  go_roundw
                  case rel => exact ⟨k + 1, q + (st - sf + 1), _, by omega, by go_num, rfl, rfl, by rw [han.out, hfb.out]; simp [inSp, *], hc2.out, by omega, by omega, hbx.out _ _⟩
                  case measure => simp [intOf]; omega
            · have hke : Hid (L.take k = L) := by show _ = _; exact List.take_of_length_le (by rw [hLl.out]; omega)
              rw [hke.out] at hfb hq
              rw [hany.out] at hfb
              rw [hsum.out] at hq
              replace hr := hr.below hbk; replace hs := hs.below hbk; replace hI := hI.below hbk; replace k0 := cell_later hbk k0; replace k1 := cell_later hbk k1; replace hw := below_next hw hbk
              clear hbk hS
              have ewr2 : IntKind.i64.wrap (cj - ca) = cj - ca := IntWalk.i64_in _ (by omega)
              obtain rfl : cj - ca = q := hq.out
              obtain rfl : (q2 && !q1) = fb := hfb.out
              cases q2 with
              | false =>
                go_wp2_with fail
                refine (has_b _ _ _ _ _ hs _ _ _ hq2.out).mono ?_
                rintro e w1_ ⟨rfl, hbK⟩
                replace hr := hr.below hbK; replace hs := hs.below hbK; replace hI := hI.below hbK; replace k0 := cell_later hbK k0; replace k1 := cell_later hbK k1; replace hw := below_next hw hbK
                clear hbK
                go_wp2_with fail
                refine (count_v _ _ _ _ _ hI _ hcj.out).mono ?_
                rintro e w2_ ⟨rfl, hbK⟩
                replace hr := hr.below hbK; replace hs := hs.below hbK; replace hI := hI.below hbK; replace k0 := cell_later hbK k0; replace k1 := cell_later hbK k1; replace hw := below_next hw hbK
                clear hbK
                go_wp2_with fail
                refine (count_v _ _ _ _ _ hr _ hca.out).mono ?_
                rintro e w3_ ⟨rfl, hbK⟩
                replace hr := hr.below hbK; replace hs := hs.below hbK; replace hI := hI.below hbK; replace k0 := cell_later hbK k0; replace k1 := cell_later hbK k1; replace hw := below_next hw hbK
                clear hbK
                go_wp2_with fail
                go_ret
                exact Law.mk hw
              | true =>
                cases q1 with
                | false =>
                  go_wp2_with fail
                  refine (has_b _ _ _ _ _ hs _ _ _ hq2.out).mono ?_
                  rintro e w1_ ⟨rfl, hbK⟩
                  replace hr := hr.below hbK; replace hs := hs.below hbK; replace hI := hI.below hbK; replace k0 := cell_later hbK k0; replace k1 := cell_later hbK k1; replace hw := below_next hw hbK
                  clear hbK
                  go_wp2_with fail
                  refine (has_b _ _ _ _ _ hr _ _ _ hq1.out).mono ?_
                  rintro e w2_ ⟨rfl, hbK⟩
                  replace hr := hr.below hbK; replace hs := hs.below hbK; replace hI := hI.below hbK; replace k0 := cell_later hbK k0; replace k1 := cell_later hbK k1; replace hw := below_next hw hbK
                  clear hbK
                  go_wp2_with fail
                  refine (count_v _ _ _ _ _ hI _ hcj.out).mono ?_
                  rintro e w3_ ⟨rfl, hbK⟩
                  replace hr := hr.below hbK; replace hs := hs.below hbK; replace hI := hI.below hbK; replace k0 := cell_later hbK k0; replace k1 := cell_later hbK k1; replace hw := below_next hw hbK
                  clear hbK
                  go_wp2_with fail
                  refine (count_v _ _ _ _ _ hr _ hca.out).mono ?_
                  rintro e w4_ ⟨rfl, hbK⟩
                  replace hr := hr.below hbK; replace hs := hs.below hbK; replace hI := hI.below hbK; replace k0 := cell_later hbK k0; replace k1 := cell_later hbK k1; replace hw := below_next hw hbK
                  clear hbK
                  go_wp2_with fail
                  go_ret
                  exact Law.mk hw
                | true =>
                  go_wp2_with fail
                  refine (has_b _ _ _ _ _ hs _ _ _ hq2.out).mono ?_
                  rintro e w1_ ⟨rfl, hbK⟩
                  replace hr := hr.below hbK; replace hs := hs.below hbK; replace hI := hI.below hbK; replace k0 := cell_later hbK k0; replace k1 := cell_later hbK k1; replace hw := below_next hw hbK
                  clear hbK
                  go_wp2_with fail
                  refine (has_b _ _ _ _ _ hr _ _ _ hq1.out).mono ?_
                  rintro e w2_ ⟨rfl, hbK⟩
                  replace hr := hr.below hbK; replace hs := hs.below hbK; replace hI := hI.below hbK; replace k0 := cell_later hbK k0; replace k1 := cell_later hbK k1; replace hw := below_next hw hbK
                  clear hbK
                  go_wp2_with fail
                  refine (count_v _ _ _ _ _ hI _ hcj.out).mono ?_
                  rintro e w3_ ⟨rfl, hbK⟩
                  replace hr := hr.below hbK; replace hs := hs.below hbK; replace hI := hI.below hbK; replace k0 := cell_later hbK k0; replace k1 := cell_later hbK k1; replace hw := below_next hw hbK
                  clear hbK
                  go_wp2_with fail
                  refine (count_v _ _ _ _ _ hr _ hca.out).mono ?_
                  rintro e w4_ ⟨rfl, hbK⟩
                  replace hr := hr.below hbK; replace hs := hs.below hbK; replace hI := hI.below hbK; replace k0 := cell_later hbK k0; replace k1 := cell_later hbK k1; replace hw := below_next hw hbK
                  clear hbK
                  go_wp2_with fail
                  go_ret
                  exact Law.mk hw
        · have hl1 : ((n : Int) != (m : Int)) = true := by simp; omega
          go_enter Tryd.func7, Tryd.ntmps7
          go_wp2_with fail
          refine (awake_any _ ht).mono ?_
          rintro e w1_ ⟨rfl, hbK⟩
          replace hr := hr.below hbK; replace hs := hs.below hbK; replace k0 := cell_later hbK k0; replace k1 := cell_later hbK k1; replace hw := below_next hw hbK
          clear hbK ht
          go_wp2_with fail
          refine (few_b _ _ _ _ _ (RL.two c d hr hs 25) _ hf.out).mono ?_
          rintro e w' ⟨rfl, rfl⟩
          go_wp2_with fail
          refine (valid_b _ _ _ _ _ (hr.alloc _) _ hv.out).mono ?_
          rintro e w' ⟨rfl, rfl⟩
          go_wp2_with fail
          refine (valid_b _ _ _ _ _ (hs.alloc _) _ hv'.out).mono ?_
          rintro e w' ⟨rfl, rfl⟩
          go_wp2_with fail
          go_ret
          exact Law.mk (hw.alloc hw.size _)
end Go.Proofs.YtfdchnepaaampaaDoor
