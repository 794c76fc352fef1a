/- Walks of the laws ClockEvents and ClockAdvances: they answer true. Conditions: the arguments read as lists, the library's table of powers stands. -/
import Derived.Test.YtfdchnepaaampaaDoorLawB
import Derived.Test.YtfdchnepaaampaaDoorBase4
import Derived.Test.YtfdchnepaaampaaDoorSpecL
namespace Go.Proofs.YtfdchnepaaampaaDoor
set_option linter.unusedSimpArgs false
set_option linter.unusedVariables false
set_option linter.unusedSectionVars false
open Go.RowKit

theorem count_w (A : Option Addr) (m c : Nat) (xs : List Int) (w : World) (hr : RI w A m xs) : Calls Tryd.prog 23 #[.slice A m c] w fun e w' => e = .returned (.int .i64 (countS xs)) ∧ Below w.heap.size w w' :=
  (count_any A m c xs w hr).mono fun _ _ ⟨he, hw⟩ => ⟨he, by rw [← hw]; exact Below.refl _ _⟩
theorem rcount_w (A : Option Addr) (m c : Nat) (xs : List Int) (w : World) (hr : RI w A m xs) : Calls Tryd.prog 34 #[.slice A m c] w fun e w' => e = .returned (.int .i64 (countS xs)) ∧ Below w.heap.size w w' :=
  (rcount_any A m c xs w hr).mono fun _ _ ⟨he, hw⟩ => ⟨he, by rw [← hw]; exact Below.refl _ _⟩

theorem below_al {a b : World} {o : Obj} (h : Below (a.alloc o).heap.size (a.alloc o) b) : Below a.heap.size a b := ((Below.refl _ _).alloc (Nat.le_refl _) o).trans (h.mono (by simp))
theorem tsize (w : World) (o : Obj) : (w.alloc o).heap.size = w.heap.size + 1 := by simp

set_option maxHeartbeats 3200000 in
set_option maxRecDepth 100000 in
theorem law_events (A B : Option Addr) (n m c d : Nat) (xs ys : List Int) (dr dn r : Int) (w : World) (hr : RI w A n xs) (hs : RI w B m ys) (ht : Tab w) :
    Calls Tryd.prog 6 #[.slice A n c, .slice B m d, .agg #[.int .i64 dr, .int .i64 dn], .int .i64 r] w (Law w) := by
  have hw : Below w.heap.size w (w.alloc (.cells #[.int .i64 dr, .int .i64 dn] 47)) := (Below.refl _ _).alloc (Nat.le_refl _) _
  replace ht := ht.alloc (.cells #[.int .i64 dr, .int .i64 dn] 47); replace hr := hr.alloc (.cells #[.int .i64 dr, .int .i64 dn] 47); replace hs := hs.alloc (.cells #[.int .i64 dr, .int .i64 dn] 47)
  have k0 : (w.alloc (.cells #[.int .i64 dr, .int .i64 dn] 47)).cell? ⟨w.heap.size, 0, none⟩ = some (.int .i64 dr) := by simp
  have k1 : (w.alloc (.cells #[.int .i64 dr, .int .i64 dn] 47)).cell? ⟨w.heap.size, 1, none⟩ = some (.int .i64 dn) := by simp
  cases hf : fewB [xs, ys] with
  | false =>
    replace hf := Lib.hid hf
    go_enter Tryd.func6, Tryd.ntmps6
    go_wp2_with fail
    refine (awake_any _ ht).mono ?_
    rintro e w1_ ⟨rfl, hbK⟩
    replace hr := hr.below hbK; replace hs := hs.below hbK; replace k0 := cell_later hbK k0; replace k1 := cell_later hbK k1; replace hw := below_next hw hbK
    clear hbK ht
    go_wp2_with fail
    refine (few_b _ _ _ _ _ (RL.two c d hr hs 25) _ hf.out).mono ?_
    rintro e w' ⟨rfl, rfl⟩
    go_wp2_with fail
    go_ret
    exact Law.mk (hw.alloc hw.size _)
  | true =>
    replace hf := Lib.hid hf
    obtain ⟨r1, r2, hc⟩ : ∃ r1 r2, compareS xs ys = (r1, r2) := ⟨_, _, rfl⟩
    have hc' : rcompareS xs ys = (r1, r2) := by rw [← compare_eq, hc]
    obtain ⟨l1, x1, x2, x3, ha⟩ : ∃ l1 x1 x2 x3, advS xs r = (l1, x1, x2, x3) := ⟨_, _, _, _, rfl⟩
    obtain ⟨hh, hhe⟩ : ∃ hh, hasS xs dr dn = hh := ⟨_, rfl⟩
    obtain ⟨cn, hcn⟩ : ∃ cn, countS xs = cn := ⟨_, rfl⟩
    replace hc := Lib.hid hc; replace hc' := Lib.hid hc'; replace ha := Lib.hid ha; replace hhe := Lib.hid hhe; replace hcn := Lib.hid hcn
    go_enter Tryd.func6, Tryd.ntmps6
    go_wp2_with fail
    refine (awake_any _ ht).mono ?_
    rintro e w1_ ⟨rfl, hbK⟩
    replace hr := hr.below hbK; replace hs := hs.below hbK; replace k0 := cell_later hbK k0; replace k1 := cell_later hbK k1; replace hw := below_next hw hbK
    clear hbK ht
    go_wp2_with fail
    refine (few_b _ _ _ _ _ (RL.two c d hr hs 25) _ hf.out).mono ?_
    rintro e w' ⟨rfl, rfl⟩
    go_wp2_with fail
    refine (compare_b _ _ _ _ _ _ _ _ _ (hr.alloc _) (hs.alloc _) _ _ hc.out).mono ?_
    rintro e w3_ ⟨rfl, hbK⟩
    replace hbK := (below_al hbK)
    replace hr := hr.below hbK; replace hs := hs.below hbK; replace k0 := cell_later hbK k0; replace k1 := cell_later hbK k1; replace hw := below_next hw hbK
    clear hbK
    go_wp2_with fail
    refine (rcompare_b _ _ _ _ _ _ _ _ _ hr hs _ _ hc'.out).mono ?_
    rintro e w4_ ⟨rfl, hbK⟩
    replace hr := hr.below hbK; replace k0 := cell_later hbK k0; replace k1 := cell_later hbK k1; replace hw := below_next hw hbK
    clear hbK hs
    go_wp2_with fail
    refine (advance_any _ _ _ _ _ _ hr).mono ?_
    rintro e w5_ ⟨A5, n5, c5, rfl, hI5, hbK⟩
    rw [ha.out] at hI5 ⊢
    replace hr := hr.below hbK; replace k0 := cell_later hbK k0; replace k1 := cell_later hbK k1; replace hw := below_next hw hbK
    clear hbK
    have j0 : (w5_.alloc (.cells #[.int .i64 x1, .int .i64 x2] 47)).cell? ⟨w5_.heap.size, 0, none⟩ = some (.int .i64 x1) := by simp
    have j1 : (w5_.alloc (.cells #[.int .i64 x1, .int .i64 x2] 47)).cell? ⟨w5_.heap.size, 1, none⟩ = some (.int .i64 x2) := by simp
    replace hr := hr.alloc (.cells #[.int .i64 x1, .int .i64 x2] 47); replace hI5 := hI5.alloc (.cells #[.int .i64 x1, .int .i64 x2] 47); replace k0 := cell_later ((Below.refl _ _).alloc (Nat.le_refl _) (.cells #[.int .i64 x1, .int .i64 x2] 47)) k0; replace k1 := cell_later ((Below.refl _ _).alloc (Nat.le_refl _) (.cells #[.int .i64 x1, .int .i64 x2] 47)) k1; replace hw := hw.alloc hw.size (.cells #[.int .i64 x1, .int .i64 x2] 47)
    go_wp2_with fail
    refine (radvance_any _ _ _ _ _ _ hr).mono ?_
    rintro e w6_ ⟨A6, n6, c6, rfl, hI6, hbK⟩
    rw [ha.out] at hI6 ⊢
    replace hr := hr.below hbK; replace hI5 := hI5.below hbK; replace k0 := cell_later hbK k0; replace k1 := cell_later hbK k1; replace j0 := cell_later hbK j0; replace j1 := cell_later hbK j1; replace hw := below_next hw hbK
    clear hbK
    go_wp2_with fail
    have q0 : (w6_.alloc (.cells #[.int .i64 x1, .int .i64 x2] 47)).cell? ⟨w6_.heap.size, 0, none⟩ = some (.int .i64 x1) := by simp
    have q1 : (w6_.alloc (.cells #[.int .i64 x1, .int .i64 x2] 47)).cell? ⟨w6_.heap.size, 1, none⟩ = some (.int .i64 x2) := by simp
    replace hr := hr.alloc (.cells #[.int .i64 x1, .int .i64 x2] 47); replace hI5 := hI5.alloc (.cells #[.int .i64 x1, .int .i64 x2] 47); replace hI6 := hI6.alloc (.cells #[.int .i64 x1, .int .i64 x2] 47)
    have hbA : Below w6_.heap.size w6_ (w6_.alloc (.cells #[.int .i64 x1, .int .i64 x2] 47)) := (Below.refl _ _).alloc (Nat.le_refl _) _
    replace k0 := cell_later hbA k0; replace k1 := cell_later hbA k1; replace j0 := cell_later hbA j0; replace j1 := cell_later hbA j1; replace hw := below_next hw hbA
    clear hbA
    generalize w6_.alloc (.cells #[.int .i64 x1, .int .i64 x2] 47) = W at *
    obtain ⟨Z, g, z0, hg, hz, h0⟩ := cls W
    have hne : Nonempty Z := ⟨z0⟩
    have g0 : ∀ z, (g z).cell? ⟨w.heap.size, 0, none⟩ = some (.int .i64 dr) := fun z => cell_later (hg z) k0
    have g1 : ∀ z, (g z).cell? ⟨w.heap.size, 1, none⟩ = some (.int .i64 dn) := fun z => cell_later (hg z) k1
    have g2 : ∀ z, (g z).cell? ⟨w5_.heap.size, 0, none⟩ = some (.int .i64 x1) := fun z => cell_later (hg z) j0
    have g3 : ∀ z, (g z).cell? ⟨w5_.heap.size, 1, none⟩ = some (.int .i64 x2) := fun z => cell_later (hg z) j1
    have g4 : ∀ z, (g z).cell? ⟨w6_.heap.size, 0, none⟩ = some (.int .i64 x1) := fun z => cell_later (hg z) q0
    have g5 : ∀ z, (g z).cell? ⟨w6_.heap.size, 1, none⟩ = some (.int .i64 x2) := fun z => cell_later (hg z) q1
    clear k0 k1 j0 j1 q0 q1
    replace hg := Lib.hid hg; replace hz := Lib.hid hz; replace h0 := Lib.hid h0
    refine wp_region_cls g z0 h0.out (by kernel_rfl) (by kernel_rfl) ?_
    repeat (go_big_quiet_step ((first
      | (go_at_call 15; exact cls_call hg.out hz.out (equal_w _ _ _ _ _ _ _ _ _ (hI5.below (hg.out _)) (hI6.below (hg.out _)) true (by simp)))
      | (go_at_call 32; exact cls_call hg.out hz.out (has_b _ _ _ _ _ (hr.below (hg.out _)) _ _ _ hhe.out))
      | (go_at_call 33; exact cls_call hg.out hz.out (rhas_b _ _ _ _ _ (hr.below (hg.out _)) _ _ _ hhe.out))
      | (go_at_call 23; exact cls_call hg.out hz.out (count_w _ _ _ _ _ (hr.below (hg.out _))))
      | (go_at_call 34; exact cls_call hg.out hz.out (rcount_w _ _ _ _ _ (hr.below (hg.out _)))))))
    refine wpQuiet_nil ?_
    rintro _ ⟨z, rfl⟩
    go_wp2_with fail
    go_ret
    exact Law.mk (below_next hw (hg.out z))
end Go.Proofs.YtfdchnepaaampaaDoor
