/- Walk of the law ClockAdvances: it answers true. Conditions: the argument reads as a list, the library's table of powers stands. -/
import Derived.Test.YtfdchnepaaampaaDoorLawC
namespace Go.Proofs.YtfdchnepaaampaaDoor
set_option linter.unusedSimpArgs false
set_option linter.unusedVariables false
set_option linter.unusedSectionVars false
open Go.RowKit

theorem count_v (A : Option Addr) (m c : Nat) (xs : List Int) (w : World) (hr : RI w A m xs) (v : Int) (hv : countS xs = v) : Calls Tryd.prog 23 #[.slice A m c] w fun e w' => e = .returned (.int .i64 v) ∧ Below w.heap.size w w' := by
  rw [← hv]; exact count_w A m c xs w hr

set_option maxHeartbeats 3200000 in
set_option maxRecDepth 100000 in
theorem law_advances (A : Option Addr) (n c : Nat) (xs : List Int) (r dr dn : Int) (w : World) (hr : RI w A n xs) (ht : Tab w) :
    Calls Tryd.prog 8 #[.slice A n c, .int .i64 r, .agg #[.int .i64 dr, .int .i64 dn]] w (Law w) := by
  have hw : Below w.heap.size w (w.alloc (.cells #[.int .i64 dr, .int .i64 dn] 47)) := (Below.refl _ _).alloc (Nat.le_refl _) _
  replace ht := ht.alloc (.cells #[.int .i64 dr, .int .i64 dn] 47); replace hr := hr.alloc (.cells #[.int .i64 dr, .int .i64 dn] 47)
  have k0 : (w.alloc (.cells #[.int .i64 dr, .int .i64 dn] 47)).cell? ⟨w.heap.size, 0, none⟩ = some (.int .i64 dr) := by simp
  have k1 : (w.alloc (.cells #[.int .i64 dr, .int .i64 dn] 47)).cell? ⟨w.heap.size, 1, none⟩ = some (.int .i64 dn) := by simp
  have hn := hr.le
  by_cases h8 : 8 < n
  · go_enter Tryd.func8, Tryd.ntmps8
    go_wp2_with fail
    refine (awake_any _ ht).mono ?_
    rintro e w1_ ⟨rfl, hbK⟩
    replace hr := hr.below hbK; replace k0 := cell_later hbK k0; replace k1 := cell_later hbK k1; replace hw := below_next hw hbK
    clear hbK ht
    go_wp2_with fail
    go_ret
    exact Law.mk hw
  · have e8 : decide ((8 : Int) < (n : Int)) = false := by simp; omega
    rcases adv_cases xs r with ⟨e, ha, he⟩ | ⟨k, v, rfl, hv, hk, hx, hv0, hv1, ha⟩
    · have he1 : (e != 0) = true := by simp [he]
      replace ha := Lib.hid ha
      replace he := Lib.hid he
      go_enter Tryd.func8, Tryd.ntmps8
      go_wp2_with fail
      refine (awake_any _ ht).mono ?_
      rintro e w1_ ⟨rfl, hbK⟩
      replace hr := hr.below hbK; replace k0 := cell_later hbK k0; replace k1 := cell_later hbK k1; replace hw := below_next hw hbK
      clear hbK ht
      go_wp2_with fail
      refine (advance_any _ _ _ _ _ _ hr).mono ?_
      rintro e w2_ ⟨A5, n5, c5, rfl, hI5, hbK⟩
      rw [ha.out] at hI5 ⊢
      replace hr := hr.below hbK; replace k0 := cell_later hbK k0; replace k1 := cell_later hbK k1; replace hw := below_next hw hbK
      clear hbK
      obtain rfl : n5 = 0 := hI5.len.symm
      go_wp2_with fail
      go_ret
      exact Law.mk (hw.alloc hw.size _)
    · have hcmp := Lib.hid (adv_cmp hv hx hv0 hv1)
      have hcnt := Lib.hid (adv_count hv hx hv0 hv1)
      have hhas := Lib.hid (adv_has hv hx hv0 hv1)
      have hhasnt := Lib.hid (adv_hasnt hv hx hv0 hv1)
      have hsame : Hid (∀ dr dn : Int, ¬ (dr = (k : Int) ∧ dn = v + 1) → hasS xs dr dn = hasS (xs.set k (v + 1)) dr dn) := fun dr dn h => adv_same hv hx hv0 hv1 h
      have hcb := Lib.hid (count_bd xs)
      obtain ⟨xs', hxs⟩ : ∃ xs', xs.set k (v + 1) = xs' := ⟨_, rfl⟩
      rw [hxs] at hcmp hcnt hhas ha hsame
      obtain ⟨cn, hcn⟩ : ∃ cn, countS xs = cn := ⟨_, rfl⟩
      have hcn1 : Hid (countS xs' = cn + 1) := by show _ = _; rw [hcnt.out, hcn]
      have hcbd : 0 ≤ cn ∧ cn ≤ 5120 := by rw [← hcn]; exact hcb.out
      have ewr : IntKind.i64.wrap (cn + 1) = cn + 1 := IntWalk.i64_in _ (by omega)
      clear hxs hv hx hk hcnt hcb
      replace ha := Lib.hid ha; replace hcn := Lib.hid hcn
      by_cases hd : dr = (k : Int) ∧ dn = v + 1
      · obtain ⟨rfl, rfl⟩ := hd
        go_enter Tryd.func8, Tryd.ntmps8
        go_wp2_with fail
        refine (awake_any _ ht).mono ?_
        rintro e w1_ ⟨rfl, hbK⟩
        replace hr := hr.below hbK; replace k0 := cell_later hbK k0; replace k1 := cell_later hbK k1; replace hw := below_next hw hbK
        clear hbK ht
        go_wp2_with fail
        refine (advance_any _ _ _ _ _ _ hr).mono ?_
        rintro e w2_ ⟨A5, n5, c5, rfl, hI5, hbK⟩
        rw [ha.out] at hI5 ⊢
        replace hr := hr.below hbK; replace k0 := cell_later hbK k0; replace k1 := cell_later hbK k1; replace hw := below_next hw hbK
        clear hbK
        have j0 : (w2_.alloc (.cells #[.int .i64 k, .int .i64 (v + 1)] 47)).cell? ⟨w2_.heap.size, 0, none⟩ = some (.int .i64 k) := by simp
        have j1 : (w2_.alloc (.cells #[.int .i64 k, .int .i64 (v + 1)] 47)).cell? ⟨w2_.heap.size, 1, none⟩ = some (.int .i64 (v + 1)) := by simp
        have hbA : Below w2_.heap.size w2_ (w2_.alloc (.cells #[.int .i64 k, .int .i64 (v + 1)] 47)) := (Below.refl _ _).alloc (Nat.le_refl _) _
        replace hr := hr.below hbA; replace hI5 := hI5.below hbA; replace k0 := cell_later hbA k0; replace k1 := cell_later hbA k1; replace hw := below_next hw hbA
        clear hbA
        go_wp2_with fail
        refine (compare_b _ _ _ _ _ _ _ _ _ hr hI5 _ _ hcmp.out).mono ?_
        rintro e w3_ ⟨rfl, hbK⟩
        replace hr := hr.below hbK; replace hI5 := hI5.below hbK; replace k0 := cell_later hbK k0; replace k1 := cell_later hbK k1; replace j0 := cell_later hbK j0; replace j1 := cell_later hbK j1; replace hw := below_next hw hbK
        clear hbK
        go_wp2_with fail
        obtain ⟨Z, g, z0, hg, hz, h0⟩ := cls w3_
        have hne : Nonempty Z := ⟨z0⟩
        have g0 : ∀ z, (g z).cell? ⟨w.heap.size, 0, none⟩ = some (.int .i64 k) := fun z => cell_later (hg z) k0
        have g1 : ∀ z, (g z).cell? ⟨w.heap.size, 1, none⟩ = some (.int .i64 (v + 1)) := fun z => cell_later (hg z) k1
        have g2 : ∀ z, (g z).cell? ⟨w2_.heap.size, 0, none⟩ = some (.int .i64 k) := fun z => cell_later (hg z) j0
        have g3 : ∀ z, (g z).cell? ⟨w2_.heap.size, 1, none⟩ = some (.int .i64 (v + 1)) := fun z => cell_later (hg z) j1
        clear k0 k1 j0 j1
        replace hg := Lib.hid hg; replace hz := Lib.hid hz; replace h0 := Lib.hid h0
        refine wp_region_cls g z0 h0.out (by kernel_rfl) (by kernel_rfl) ?_
        repeat (go_big_quiet_step ((first
          | (go_at_call_of 23 A; exact cls_call hg.out hz.out (count_v _ _ _ _ _ (hr.below (hg.out _)) _ hcn.out))
          | (go_at_call_of 23 A5; exact cls_call hg.out hz.out (count_v _ _ _ _ _ (hI5.below (hg.out _)) _ hcn1.out))
          | (go_at_call_of 32 A; exact cls_call hg.out hz.out (has_b _ _ _ _ _ (hr.below (hg.out _)) _ _ _ hhasnt.out))
          | (go_at_call_of 32 A5; exact cls_call hg.out hz.out (has_b _ _ _ _ _ (hI5.below (hg.out _)) _ _ _ hhas.out)))))
        refine wpQuiet_nil ?_
        rintro _ ⟨z, rfl⟩
        go_wp2_with fail
        go_ret
        exact Law.mk (below_next hw (hg.out z))
      · obtain ⟨q, hq⟩ : ∃ q, hasS xs dr dn = q := ⟨_, rfl⟩
        have hq' : Hid (hasS xs' dr dn = q) := by show _ = _; rw [← hsame.out dr dn hd, hq]
        replace hq := Lib.hid hq
        by_cases hd1 : dr = (k : Int)
        · have hd2 : ¬ dn = v + 1 := fun h => hd ⟨hd1, h⟩
          clear hd
          subst hd1
          go_enter Tryd.func8, Tryd.ntmps8
          go_wp2_with fail
          refine (awake_any _ ht).mono ?_
          rintro e w1_ ⟨rfl, hbK⟩
          replace hr := hr.below hbK; replace k0 := cell_later hbK k0; replace k1 := cell_later hbK k1; replace hw := below_next hw hbK
          clear hbK ht
          go_wp2_with fail
          refine (advance_any _ _ _ _ _ _ hr).mono ?_
          rintro e w2_ ⟨A5, n5, c5, rfl, hI5, hbK⟩
          rw [ha.out] at hI5 ⊢
          replace hr := hr.below hbK; replace k0 := cell_later hbK k0; replace k1 := cell_later hbK k1; replace hw := below_next hw hbK
          clear hbK
          have j0 : (w2_.alloc (.cells #[.int .i64 k, .int .i64 (v + 1)] 47)).cell? ⟨w2_.heap.size, 0, none⟩ = some (.int .i64 k) := by simp
          have j1 : (w2_.alloc (.cells #[.int .i64 k, .int .i64 (v + 1)] 47)).cell? ⟨w2_.heap.size, 1, none⟩ = some (.int .i64 (v + 1)) := by simp
          have hbA : Below w2_.heap.size w2_ (w2_.alloc (.cells #[.int .i64 k, .int .i64 (v + 1)] 47)) := (Below.refl _ _).alloc (Nat.le_refl _) _
          replace hr := hr.below hbA; replace hI5 := hI5.below hbA; replace k0 := cell_later hbA k0; replace k1 := cell_later hbA k1; replace hw := below_next hw hbA
          clear hbA
          go_wp2_with fail
          refine (compare_b _ _ _ _ _ _ _ _ _ hr hI5 _ _ hcmp.out).mono ?_
          rintro e w3_ ⟨rfl, hbK⟩
          replace hr := hr.below hbK; replace hI5 := hI5.below hbK; replace k0 := cell_later hbK k0; replace k1 := cell_later hbK k1; replace j0 := cell_later hbK j0; replace j1 := cell_later hbK j1; replace hw := below_next hw hbK
          clear hbK
          go_wp2_with fail
          obtain ⟨Z, g, z0, hg, hz, h0⟩ := cls w3_
          have hne : Nonempty Z := ⟨z0⟩
          have g0 : ∀ z, (g z).cell? ⟨w.heap.size, 0, none⟩ = some (.int .i64 k) := fun z => cell_later (hg z) k0
          have g1 : ∀ z, (g z).cell? ⟨w.heap.size, 1, none⟩ = some (.int .i64 dn) := fun z => cell_later (hg z) k1
          have g2 : ∀ z, (g z).cell? ⟨w2_.heap.size, 0, none⟩ = some (.int .i64 k) := fun z => cell_later (hg z) j0
          have g3 : ∀ z, (g z).cell? ⟨w2_.heap.size, 1, none⟩ = some (.int .i64 (v + 1)) := fun z => cell_later (hg z) j1
          clear k0 k1 j0 j1
          replace hg := Lib.hid hg; replace hz := Lib.hid hz; replace h0 := Lib.hid h0
          refine wp_region_cls g z0 h0.out (by kernel_rfl) (by kernel_rfl) ?_
          repeat (go_big_quiet_step ((first
            | (go_at_call_of 23 A; exact cls_call hg.out hz.out (count_v _ _ _ _ _ (hr.below (hg.out _)) _ hcn.out))
            | (go_at_call_of 23 A5; exact cls_call hg.out hz.out (count_v _ _ _ _ _ (hI5.below (hg.out _)) _ hcn1.out))
            | (go_at_call_of 32 dn; go_at_call_of 32 A; exact cls_call hg.out hz.out (has_b _ _ _ _ _ (hr.below (hg.out _)) _ dn _ hq.out))
            | (go_at_call_of 32 dn; go_at_call_of 32 A5; exact cls_call hg.out hz.out (has_b _ _ _ _ _ (hI5.below (hg.out _)) _ dn _ hq'.out))
            | (go_at_call_of 32 A; exact cls_call hg.out hz.out (has_b _ _ _ _ _ (hr.below (hg.out _)) _ _ _ hhasnt.out))
            | (go_at_call_of 32 A5; exact cls_call hg.out hz.out (has_b _ _ _ _ _ (hI5.below (hg.out _)) _ _ _ hhas.out)))))
          refine wpQuiet_nil ?_
          rintro _ ⟨z, rfl⟩
          go_wp2_with fail
          go_ret
          exact Law.mk (below_next hw (hg.out z))
        · clear hd
          go_enter Tryd.func8, Tryd.ntmps8
          go_wp2_with fail
          refine (awake_any _ ht).mono ?_
          rintro e w1_ ⟨rfl, hbK⟩
          replace hr := hr.below hbK; replace k0 := cell_later hbK k0; replace k1 := cell_later hbK k1; replace hw := below_next hw hbK
          clear hbK ht
          go_wp2_with fail
          refine (advance_any _ _ _ _ _ _ hr).mono ?_
          rintro e w2_ ⟨A5, n5, c5, rfl, hI5, hbK⟩
          rw [ha.out] at hI5 ⊢
          replace hr := hr.below hbK; replace k0 := cell_later hbK k0; replace k1 := cell_later hbK k1; replace hw := below_next hw hbK
          clear hbK
          have j0 : (w2_.alloc (.cells #[.int .i64 k, .int .i64 (v + 1)] 47)).cell? ⟨w2_.heap.size, 0, none⟩ = some (.int .i64 k) := by simp
          have j1 : (w2_.alloc (.cells #[.int .i64 k, .int .i64 (v + 1)] 47)).cell? ⟨w2_.heap.size, 1, none⟩ = some (.int .i64 (v + 1)) := by simp
          have hbA : Below w2_.heap.size w2_ (w2_.alloc (.cells #[.int .i64 k, .int .i64 (v + 1)] 47)) := (Below.refl _ _).alloc (Nat.le_refl _) _
          replace hr := hr.below hbA; replace hI5 := hI5.below hbA; replace k0 := cell_later hbA k0; replace k1 := cell_later hbA k1; replace hw := below_next hw hbA
          clear hbA
          go_wp2_with fail
          refine (compare_b _ _ _ _ _ _ _ _ _ hr hI5 _ _ hcmp.out).mono ?_
          rintro e w3_ ⟨rfl, hbK⟩
          replace hr := hr.below hbK; replace hI5 := hI5.below hbK; replace k0 := cell_later hbK k0; replace k1 := cell_later hbK k1; replace j0 := cell_later hbK j0; replace j1 := cell_later hbK j1; replace hw := below_next hw hbK
          clear hbK
          go_wp2_with fail
          obtain ⟨Z, g, z0, hg, hz, h0⟩ := cls w3_
          have hne : Nonempty Z := ⟨z0⟩
          have g0 : ∀ z, (g z).cell? ⟨w.heap.size, 0, none⟩ = some (.int .i64 dr) := fun z => cell_later (hg z) k0
          have g1 : ∀ z, (g z).cell? ⟨w.heap.size, 1, none⟩ = some (.int .i64 dn) := fun z => cell_later (hg z) k1
          have g2 : ∀ z, (g z).cell? ⟨w2_.heap.size, 0, none⟩ = some (.int .i64 k) := fun z => cell_later (hg z) j0
          have g3 : ∀ z, (g z).cell? ⟨w2_.heap.size, 1, none⟩ = some (.int .i64 (v + 1)) := fun z => cell_later (hg z) j1
          clear k0 k1 j0 j1
          replace hg := Lib.hid hg; replace hz := Lib.hid hz; replace h0 := Lib.hid h0
          refine wp_region_cls g z0 h0.out (by kernel_rfl) (by kernel_rfl) ?_
          repeat (go_big_quiet_step ((first
            | (go_at_call_of 23 A; exact cls_call hg.out hz.out (count_v _ _ _ _ _ (hr.below (hg.out _)) _ hcn.out))
            | (go_at_call_of 23 A5; exact cls_call hg.out hz.out (count_v _ _ _ _ _ (hI5.below (hg.out _)) _ hcn1.out))
            | (go_at_call_of 32 dn; go_at_call_of 32 A; exact cls_call hg.out hz.out (has_b _ _ _ _ _ (hr.below (hg.out _)) _ dn _ hq.out))
            | (go_at_call_of 32 dn; go_at_call_of 32 A5; exact cls_call hg.out hz.out (has_b _ _ _ _ _ (hI5.below (hg.out _)) _ dn _ hq'.out))
            | (go_at_call_of 32 A; exact cls_call hg.out hz.out (has_b _ _ _ _ _ (hr.below (hg.out _)) _ _ _ hhasnt.out))
            | (go_at_call_of 32 A5; exact cls_call hg.out hz.out (has_b _ _ _ _ _ (hI5.below (hg.out _)) _ _ _ hhas.out)))))
          refine wpQuiet_nil ?_
          rintro _ ⟨z, rfl⟩
          go_wp2_with fail
          go_ret
          exact Law.mk (below_next hw (hg.out z))
end Go.Proofs.YtfdchnepaaampaaDoor
