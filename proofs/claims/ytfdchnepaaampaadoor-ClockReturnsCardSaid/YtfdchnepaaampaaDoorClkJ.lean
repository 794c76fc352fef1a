/- Walks: Advance of the clocks. Conditions: the arguments read as lists. -/
import Derived.Test.YtfdchnepaaampaaDoorClkE
import Derived.Test.YtfdchnepaaampaaDoorSpec2
import Derived.Test.YtfdchnepaaampaaDoorBase3
namespace Go.Proofs.YtfdchnepaaampaaDoor
set_option linter.unusedSimpArgs false
set_option linter.unusedVariables false
set_option linter.unusedSectionVars false
open Go.RowKit

/-- The call returns a clock, an event's name and an error's number. -/
def RetA (p : List Int × Int × Int × Int) (w : World) (e : Ending) (w' : World) : Prop :=
  ∃ A n c, e = .returned (.tuple #[.slice A n c, .agg #[.int .i64 p.2.1, .int .i64 p.2.2.1], .int .i64 p.2.2.2]) ∧ RI w' A n p.1 ∧ Below w.heap.size w w'
theorem RetA.mk {p : List Int × Int × Int × Int} {w w' : World} {A : Option Addr} {n c : Nat} {xs : List Int} {x y z : Int} (hp : p = (xs, x, y, z)) (h : RI w' A n xs) (hb : Below w.heap.size w w') :
    RetA p w (.returned (.tuple #[.slice A n c, .agg #[.int .i64 x, .int .i64 y], .int .i64 z])) w' := by subst hp; exact ⟨A, n, c, rfl, h, hb⟩

theorem RI.other {w : World} {g n : Nat} {xs : List Int} (h : RI w (some ⟨g, 0, none⟩) n xs) {p : Addr} (hp : p.block ≠ g) (u : Value) : RI (w.setCell p u) (some ⟨g, 0, none⟩) n xs := by
  refine ⟨h.1, h.2.1, fun hn => ?_⟩
  obtain ⟨b, o, e, hb, hc⟩ := h.2.2 hn
  cases e
  exact ⟨g, 0, rfl, by simpa [World.setCell] using hb, fun j v hv => (World.cell?_setCell_other w p ⟨g, 0 + j, none⟩ u (fun e => hp (by rw [e]))).trans (hc j v hv)⟩

set_option maxHeartbeats 1600000 in
set_option maxRecDepth 100000 in
theorem advance_any (A : Option Addr) (m c : Nat) (xs : List Int) (r : Int) (w : World) (hr : RI w A m xs) :
    Calls Tryd.prog 30 #[.slice A m c, .int .i64 r] w (RetA (advS xs r) w) := by
  have hm := hr.le
  have hl := Lib.hid hr.len
  have hra := hr.alloc (.cells #[.int .i64 0, .int .i64 0] 47)
  have hbl : Hid (Below w.heap.size w (w.alloc (.cells #[.int .i64 0, .int .i64 0] 47))) := (Below.refl _ _).alloc (Nat.le_refl _) _
  cases hv : validB xs with
  | false =>
    have h0 : Hid (advS xs r = ([], 0, 0, 1)) := by show _ = _; simp [advS, hv]
    replace hv := Lib.hid hv; clear hr
    go_enter Tryd.func30, Tryd.ntmps30
    go_wp2_with (go_at_call 13; refine (valid_b _ _ _ _ _ hra _ hv.out).mono ?_; rintro e w' ⟨rfl, rfl⟩)
    refine bodyPost_ret (v := .tuple #[.slice none 0 0, .agg #[.int .i64 0, .int .i64 0], .int .i64 1]) (by simp [results, Tryd.results30, go_sem]) rfl (RetA.mk h0.out (RI.nil _) hbl.out)
  | true =>
    have h5 : 1 ≤ m ∧ m ≤ 5 := by have := valid_len hv; rw [hr.len] at this; exact this
    by_cases h1 : r < 0 ∨ (m : Int) ≤ r
    · have h0 : Hid (advS xs r = ([], 0, 0, 2)) := by show _ = _; unfold advS; rw [hv, hl.out, if_pos h1]; rfl
      replace hv := Lib.hid hv; clear hr
      rcases h1 with h1 | h1
      · go_enter Tryd.func30, Tryd.ntmps30
        go_wp2_with (go_at_call 13; refine (valid_b _ _ _ _ _ hra _ hv.out).mono ?_; rintro e w' ⟨rfl, rfl⟩)
        refine bodyPost_ret (v := .tuple #[.slice none 0 0, .agg #[.int .i64 0, .int .i64 0], .int .i64 2]) (by simp [results, Tryd.results30, go_sem]) rfl (RetA.mk h0.out (RI.nil _) hbl.out)
      · have h2 : ¬ r < 0 := by omega
        go_enter Tryd.func30, Tryd.ntmps30
        go_wp2_with (go_at_call 13; refine (valid_b _ _ _ _ _ hra _ hv.out).mono ?_; rintro e w' ⟨rfl, rfl⟩)
        refine bodyPost_ret (v := .tuple #[.slice none 0 0, .agg #[.int .i64 0, .int .i64 0], .int .i64 2]) (by simp [results, Tryd.results30, go_sem]) rfl (RetA.mk h0.out (RI.nil _) hbl.out)
    · obtain ⟨k, rfl⟩ := Int.eq_ofNat_of_zero_le (show 0 ≤ r by omega)
      have hk : k < m := by omega
      have hk' : (k : Int) < (m : Int) := by omega
      obtain ⟨b, o, x, rfl, hx, hc⟩ := hr.at_ hk
      have hbb := hr.blk (by omega)
      have ⟨hx0, hx1⟩ := ok1_at hv hx
      have hca : (w.alloc (.cells #[.int .i64 0, .int .i64 0] 47)).cell? ⟨b, o + k, none⟩ = some (.int .i64 x) := cell_alloc hbb hc _
      by_cases h2 : x = 1024
      · subst h2
        have h0 : Hid (advS xs k = ([], 0, 0, 8)) := by show _ = _; unfold advS; rw [hv, hl.out, if_neg h1, Int.toNat_natCast, getD_get hx]; rfl
        clear h1; replace hv := Lib.hid hv; replace hx := Lib.hid hx; clear hr hc
        go_enter Tryd.func30, Tryd.ntmps30
        go_wp2_with (go_at_call 13; refine (valid_b _ _ _ _ _ hra _ hv.out).mono ?_; rintro e w' ⟨rfl, rfl⟩)
        refine bodyPost_ret (v := .tuple #[.slice none 0 0, .agg #[.int .i64 0, .int .i64 0], .int .i64 8]) (by simp [results, Tryd.results30, go_sem]) rfl (RetA.mk h0.out (RI.nil _) hbl.out)
      · have h0 : Hid (advS xs k = (xs.set k (x + 1), (k : Int), x + 1, 0)) := by show _ = _; unfold advS; rw [hv, hl.out, if_neg h1, Int.toNat_natCast, getD_get hx]; simp [h2]
        have h3 : (x == 1024) = false := by simp [h2]
        clear h1 h2; replace hv := Lib.hid hv; replace hx := Lib.hid hx; clear hr hc
        have ewr : IntKind.i64.wrap (x + 1) = x + 1 := IntWalk.i64_in _ (by omega)
        go_enter Tryd.func30, Tryd.ntmps30
        go_wp2_with fail
        refine (valid_b _ _ _ _ _ hra _ hv.out).mono ?_; rintro e w' ⟨rfl, rfl⟩
        go_wp2_with fail
        refine (clone_own _ _ _ _ _ hra (by omega) (by omega)).mono ?_; rintro e w1 ⟨g, cap, rfl, hO, hb1⟩
        have hg : w.heap.size < g := by have := hO.lt.1; simp at this; omega
        have hB0 : w1.cell? ⟨w.heap.size, 0, none⟩ = some (.int .i64 0) := (hb1.cell (p := ⟨w.heap.size, 0, none⟩) (by simp)).trans (by simp)
        have hB1 : w1.cell? ⟨w.heap.size, 1, none⟩ = some (.int .i64 0) := (hb1.cell (p := ⟨w.heap.size, 1, none⟩) (by simp)).trans (by simp)
        have hF0 : w1.frozen? ⟨w.heap.size, 0, none⟩ = false := (hb1.frozen (p := ⟨w.heap.size, 0, none⟩) (by simp)).trans (by simp [go_sem])
        have hF1 : w1.frozen? ⟨w.heap.size, 1, none⟩ = false := (hb1.frozen (p := ⟨w.heap.size, 1, none⟩) (by simp)).trans (by simp [go_sem])
        obtain ⟨x', hx', hgc⟩ := hO.cell hk
        obtain rfl : x = x' := by have := hx.out.symm.trans hx'; injection this
        have hgf := hO.frozen k
        replace hx' := Lib.hid hx'; replace hO := Lib.hid hO; replace hb1 := Lib.hid hb1
        go_wp2_with fail
        go_region
        have hRI := Lib.hid ((hO.out.set k (x + 1)).ri.other (p := ⟨w.heap.size, 0, none⟩) (by simp; omega) (.int .i64 k) |>.other (p := ⟨w.heap.size, 1, none⟩) (by simp; omega) (.int .i64 (x + 1)))
        have hBL := Lib.hid ((((hbl.out.trans (hb1.out.mono (by simp))).setCell (p := ⟨g, k, none⟩) (Nat.le_of_lt hg) (.int .i64 (x + 1))).setCell (p := ⟨w.heap.size, 0, none⟩) (Nat.le_refl _) (.int .i64 k)).setCell (p := ⟨w.heap.size, 1, none⟩) (Nat.le_refl _) (.int .i64 (x + 1)))
        go_wp2_with fail
        refine bodyPost_ret (v := .tuple #[.slice (some ⟨g, 0, none⟩) m cap, .agg #[.int .i64 k, .int .i64 (x + 1)], .int .i64 0]) (by simp [results, Tryd.results30, go_sem, hB0, hB1]) rfl (RetA.mk h0.out hRI.out hBL.out.drew)
set_option maxHeartbeats 1600000 in
set_option maxRecDepth 100000 in
theorem radvance_any (A : Option Addr) (m c : Nat) (xs : List Int) (r : Int) (w : World) (hr : RI w A m xs) :
    Calls Tryd.prog 31 #[.slice A m c, .int .i64 r] w (RetA (advS xs r) w) := by
  have hm := hr.le
  have hl := Lib.hid hr.len
  have hra := hr.alloc (.cells #[.int .i64 0, .int .i64 0] 47)
  have hbl : Hid (Below w.heap.size w (w.alloc (.cells #[.int .i64 0, .int .i64 0] 47))) := (Below.refl _ _).alloc (Nat.le_refl _) _
  cases hv : validB xs with
  | false =>
    have h0 : Hid (advS xs r = ([], 0, 0, 1)) := by show _ = _; simp [advS, hv]
    replace hv := Lib.hid hv; clear hr
    go_enter Tryd.func31, Tryd.ntmps31
    go_wp2_with (go_at_call 14; refine (rvalid_b _ _ _ _ _ hra _ hv.out).mono ?_; rintro e w' ⟨rfl, rfl⟩)
    refine bodyPost_ret (v := .tuple #[.slice none 0 0, .agg #[.int .i64 0, .int .i64 0], .int .i64 1]) (by simp [results, Tryd.results31, go_sem]) rfl (RetA.mk h0.out (RI.nil _) hbl.out)
  | true =>
    have h5 : 1 ≤ m ∧ m ≤ 5 := by have := valid_len hv; rw [hr.len] at this; exact this
    by_cases h1 : r < 0 ∨ (m : Int) ≤ r
    · have h0 : Hid (advS xs r = ([], 0, 0, 2)) := by show _ = _; unfold advS; rw [hv, hl.out, if_pos h1]; rfl
      replace hv := Lib.hid hv; clear hr
      rcases h1 with h1 | h1
      · go_enter Tryd.func31, Tryd.ntmps31
        go_wp2_with (go_at_call 14; refine (rvalid_b _ _ _ _ _ hra _ hv.out).mono ?_; rintro e w' ⟨rfl, rfl⟩)
        refine bodyPost_ret (v := .tuple #[.slice none 0 0, .agg #[.int .i64 0, .int .i64 0], .int .i64 2]) (by simp [results, Tryd.results31, go_sem]) rfl (RetA.mk h0.out (RI.nil _) hbl.out)
      · have h2 : ¬ r < 0 := by omega
        go_enter Tryd.func31, Tryd.ntmps31
        go_wp2_with (go_at_call 14; refine (rvalid_b _ _ _ _ _ hra _ hv.out).mono ?_; rintro e w' ⟨rfl, rfl⟩)
        refine bodyPost_ret (v := .tuple #[.slice none 0 0, .agg #[.int .i64 0, .int .i64 0], .int .i64 2]) (by simp [results, Tryd.results31, go_sem]) rfl (RetA.mk h0.out (RI.nil _) hbl.out)
    · obtain ⟨k, rfl⟩ := Int.eq_ofNat_of_zero_le (show 0 ≤ r by omega)
      have hk : k < m := by omega
      have hk' : (k : Int) < (m : Int) := by omega
      obtain ⟨b, o, x, rfl, hx, hc⟩ := hr.at_ hk
      have hbb := hr.blk (by omega)
      have ⟨hx0, hx1⟩ := ok1_at hv hx
      have hca : (w.alloc (.cells #[.int .i64 0, .int .i64 0] 47)).cell? ⟨b, o + k, none⟩ = some (.int .i64 x) := cell_alloc hbb hc _
      by_cases h2 : x = 1024
      · subst h2
        have h0 : Hid (advS xs k = ([], 0, 0, 8)) := by show _ = _; unfold advS; rw [hv, hl.out, if_neg h1, Int.toNat_natCast, getD_get hx]; rfl
        clear h1; replace hv := Lib.hid hv; replace hx := Lib.hid hx; clear hr hc
        go_enter Tryd.func31, Tryd.ntmps31
        go_wp2_with (go_at_call 14; refine (rvalid_b _ _ _ _ _ hra _ hv.out).mono ?_; rintro e w' ⟨rfl, rfl⟩)
        refine bodyPost_ret (v := .tuple #[.slice none 0 0, .agg #[.int .i64 0, .int .i64 0], .int .i64 8]) (by simp [results, Tryd.results31, go_sem]) rfl (RetA.mk h0.out (RI.nil _) hbl.out)
      · have h0 : Hid (advS xs k = (xs.set k (x + 1), (k : Int), x + 1, 0)) := by show _ = _; unfold advS; rw [hv, hl.out, if_neg h1, Int.toNat_natCast, getD_get hx]; simp [h2]
        have h3 : (x == 1024) = false := by simp [h2]
        clear h1 h2; replace hv := Lib.hid hv; replace hx := Lib.hid hx; clear hr hc
        have ewr : IntKind.i64.wrap (x + 1) = x + 1 := IntWalk.i64_in _ (by omega)
        go_enter Tryd.func31, Tryd.ntmps31
        go_wp2_with fail
        refine (rvalid_b _ _ _ _ _ hra _ hv.out).mono ?_; rintro e w' ⟨rfl, rfl⟩
        have hhs : Hid ((w.alloc (.cells #[.int .i64 0, .int .i64 0] 47)).heap.size = w.heap.size + 1) := by show _ = _; simp
        go_wp2_with (first
          | (at_builtin
             refine wpList_copy_ints _ rfl (.tmp 27) (.tmp 28) rfl _ hhs.out rfl _ m _ _ rfl hra (by omega) ?_
             intro g cap w1 hO hb1
             have hg : w.heap.size < g := by have := hO.lt.1; omega
             have hB0 : w1.cell? ⟨w.heap.size, 0, none⟩ = some (.int .i64 0) := (hb1.cell (p := ⟨w.heap.size, 0, none⟩) (by simp)).trans (by simp)
             have hB1 : w1.cell? ⟨w.heap.size, 1, none⟩ = some (.int .i64 0) := (hb1.cell (p := ⟨w.heap.size, 1, none⟩) (by simp)).trans (by simp)
             have hF0 : w1.frozen? ⟨w.heap.size, 0, none⟩ = false := (hb1.frozen (p := ⟨w.heap.size, 0, none⟩) (by simp)).trans (by simp [go_sem])
             have hF1 : w1.frozen? ⟨w.heap.size, 1, none⟩ = false := (hb1.frozen (p := ⟨w.heap.size, 1, none⟩) (by simp)).trans (by simp [go_sem])
             obtain ⟨x', hx', hgc⟩ := hO.cell hk
             obtain rfl : x = x' := by have := hx.out.symm.trans hx'; injection this
             have hgf := hO.frozen k
             replace hx' := Lib.hid hx'; replace hO := Lib.hid hO; replace hb1 := Lib.hid hb1))
        go_region
        have hRI := Lib.hid ((hO.out.set k (x + 1)).ri.other (p := ⟨w.heap.size, 0, none⟩) (by simp; omega) (.int .i64 k) |>.other (p := ⟨w.heap.size, 1, none⟩) (by simp; omega) (.int .i64 (x + 1)))
        have hBL := Lib.hid ((((hbl.out.trans (hb1.out.mono (by simp))).setCell (p := ⟨g, k, none⟩) (Nat.le_of_lt hg) (.int .i64 (x + 1))).setCell (p := ⟨w.heap.size, 0, none⟩) (Nat.le_refl _) (.int .i64 k)).setCell (p := ⟨w.heap.size, 1, none⟩) (Nat.le_refl _) (.int .i64 (x + 1)))
        go_wp2_with fail
        refine bodyPost_ret (v := .tuple #[.slice (some ⟨g, 0, none⟩) m cap, .agg #[.int .i64 k, .int .i64 (x + 1)], .int .i64 0]) (by simp [results, Tryd.results31, go_sem, hB0, hB1]) rfl (RetA.mk h0.out hRI.out hBL.out.drew)
end Go.Proofs.YtfdchnepaaampaaDoor
