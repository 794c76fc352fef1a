/- Walks: Missing of the clocks and of their reference. Conditions: the arguments read as lists. -/
import Derived.Test.YtfdchnepaaampaaDoorClkD
import Derived.Test.YtfdchnepaaampaaDoorBase2
namespace Go.Proofs.YtfdchnepaaampaaDoor
set_option linter.unusedSimpArgs false
set_option linter.unusedVariables false
set_option linter.unusedSectionVars false
open Go.RowKit

theorem miss_len (a b : List Int) : ∀ k, (missL a b k).length ≤ k
  | 0 => Nat.le_refl _
  | k + 1 => by have := miss_len a b k; rw [missL]; split <;> simp <;> omega

theorem miss_below {w wr w1 : World} {v : Value} {n q : Nat} {xs : List Value} {o : Obj} (hown : wr.ownsRow w.heap.size 43 3 v n xs) (hb : Below w.heap.size w wr) (hg : ((wr.drewN q).alloc o).grownBy w1 v.ownBlock) : Below w.heap.size w w1 :=
  ((below_drewN hb q).alloc hb.size o).grown hg (Nat.le_trans hb.size (by simp)) (fun k hk => (hown.lt k hk).1)

set_option maxHeartbeats 1600000 in
set_option maxRecDepth 100000 in
theorem missing_any (A B : Option Addr) (m m' c d : Nat) (xs ys : List Int) (w : World) (hr : RI w A m xs) (hs : RI w B m' ys) :
    Calls Tryd.prog 27 #[.slice A m c, .slice B m' d] w (RetS (missS xs ys) w) := by
  have hL := RL.two c d hr hs 25
  obtain ⟨i0, hi, hz0, hz1, hz2⟩ := info_parts span_info
  replace hi := Lib.hid hi; replace hz0 := Lib.hid hz0; replace hz1 := Lib.hid hz1; replace hz2 := Lib.hid hz2
  have hw1 : Below w.heap.size w (w.alloc (.cells #[.slice A m c, .slice B m' d] 25)) := (Below.refl _ _).alloc (Nat.le_refl _) _
  cases ha : alikeB [xs, ys] with
  | false =>
    have h0 : Hid (missS xs ys = []) := by show _ = _; simp [missS, ha]
    replace ha := Lib.hid ha
    go_enter Tryd.func27, Tryd.ntmps27
    go_wp2_with (go_at_call 43; refine (alike_b _ _ _ _ _ hL _ ha.out).mono ?_; rintro e w' ⟨rfl, rfl⟩)
    go_ret
    exact RetS.mk (by rw [h0.out]; exact RS.nil _) hw1
  | true =>
    have h0 : Hid (missS xs ys = missL xs ys m) := by show _ = _; simp [missS, ha, hr.len]
    obtain rfl : m = m' := by rw [← hr.len, ← hs.len]; exact alike_len ha
    have hv : Hid (validB xs = true ∧ validB ys = true) := by show _ ∧ _; simp [alikeB, al1] at ha; exact ⟨ha.1, ha.2.1⟩
    have hm5 : m ≤ 5 := by have := valid_len hv.out.1; rw [hr.len] at this; exact this.2
    replace ha := Lib.hid ha
    go_enter Tryd.func27, Tryd.ntmps27
    go_wp2_with fail
    refine (alike_b _ _ _ _ _ hL _ ha.out).mono ?_; rintro e w' ⟨rfl, rfl⟩
    go_wp2_with fail
    go_loopw [5, 14] (fun v i wr => ∃ k : Nat, k ≤ m ∧ i = .int .i64 k ∧ wr.ownsRow w.heap.size 43 3 v (missL xs ys k).length (flat (missL xs ys k)) ∧ Below w.heap.size w wr) (fun _ i _ => m - (intOf i).toNat)
    case atStart => exact ⟨0, Nat.zero_le _, rfl, World.ownsRow_nil _ _ _ _, hw1⟩
    case round =>
      obtain ⟨k, hk, rfl, hown, hbk⟩ := hrel
      by_cases hlt : k < m
      · obtain ⟨b, o, x, rfl, hx, hc⟩ := (hr.below hbk).at_ hlt
        obtain ⟨b', o', y, rfl, hy, hc'⟩ := (hs.below hbk).at_ hlt
        have ⟨hx0, hx1⟩ := ok1_at hv.out.1 hx
        have hlb := Lib.hid (miss_len xs ys k)
        have hst : Hid (missL xs ys (k + 1) = missL xs ys k ++ if x < y then [⟨k, x + 1, y⟩] else []) := by show _ = _; rw [missL, getD_get hx, getD_get hy]
        replace hx := Lib.hid hx; replace hy := Lib.hid hy; replace hown := Lib.hid hown; replace hbk := Lib.hid hbk
        clear hr hs hL hw1
        have ek : (k : Int) < (m : Int) := by omega
        by_cases hxy : x < y
        · go_wp2_with fail
          go_quiet (fail)
          go_wp2_with fail
          have ewr : IntKind.i64.wrap (x + 1) = x + 1 := IntWalk.i64_in _ (by omega)
          have e63 : (missL xs ys k).length + 1 ≤ maxLen := by have := hlb.out; unfold maxLen; omega
          have e24 : ((missL xs ys k).length + 1) * 24 ≤ 140737488355328 := by have := hlb.out; omega
          have e63 := Lib.hid e63; have e24 := Lib.hid e24
          have ebase : Hid (w.heap.size ≤ ((wr.drewN (nq + 1)).alloc (.cells #[.int .i64 k, .int .i64 (x + 1), .int .i64 y] 43)).heap.size) := by have := hbk.out.size; show _ ≤ _; simp; omega
          go_region_law ((
            refine step_append_any _ rfl (.tmp 26) (.tmp 38) 37 rfl w.heap.size 43 i0 (.agg #[.int .i64 0, .int .i64 0, .int .i64 0]) 3 24 Tryd.underlying37 hi.out hz0.out hz1.out hz2.out rfl (Nat.zero_lt_succ _) u5 (missL xs ys k).length (flat (missL xs ys k)) ?_ ?_ (some ⟨wr.heap.size, 0, none⟩) 1 1 (spCells ⟨k, x + 1, y⟩) ?_ rfl ?_ (flat_one [⟨k, x + 1, y⟩]) e63.out e24.out ?_ ?_
            · simp [Act.eval, Act.put]
            · exact World.ownsRow.alloc (w := wr.drewN _) hown.out _
            · simp [Act.eval, Act.put]
            · exact RC.lit (wr.drewN _) _ _
            · exact ebase.out
            intro v1 w1 hown1 hg1 hat1))
          all_goals
            have hb1 := Lib.hid (miss_below hown.out hbk.out hg1)
            have ho1 : Hid (w1.ownsRow w.heap.size 43 3 v1 (missL xs ys (k + 1)).length (flat (missL xs ys (k + 1)))) := by show World.ownsRow _ _ _ _ _ _ _; rw [hst.out, if_pos hxy, flat_snoc, List.length_append]; exact hown1
            clear hown1 hg1 hat1 e63 e24 ebase
            go_wp2
            go_roundw
            case rel => exact ⟨k + 1, by omega, by go_num, ho1.out, hb1.out⟩
            case measure => simp [intOf]; omega
        · have ho1 : Hid (missL xs ys (k + 1) = missL xs ys k) := by show _ = _; rw [hst.out, if_neg hxy, List.append_nil]
          go_wp2_with fail
          go_quiet (fail)
          go_wp2_with fail
          go_roundw
          case rel => exact ⟨k + 1, by omega, by go_num, by rw [ho1.out]; exact hown.out, below_drewN hbk.out nq⟩
          case measure => simp [intOf]; omega
      · obtain rfl : k = m := by omega
        clear hr hs hL hw1
        replace hown := Lib.hid hown
        have hlb := Lib.hid (miss_len xs ys k)
        go_wp2_with fail
        go_ret
        exact RetS.of_own (by rw [h0.out]; exact hown.out) (by rw [h0.out]) (by have := hlb.out; omega) hbk
set_option maxHeartbeats 1600000 in
set_option maxRecDepth 100000 in
theorem rmissing_any (A B : Option Addr) (m m' c d : Nat) (xs ys : List Int) (w : World) (hr : RI w A m xs) (hs : RI w B m' ys) :
    Calls Tryd.prog 28 #[.slice A m c, .slice B m' d] w (RetS (missS xs ys) w) := by
  have hw0 : Below w.heap.size w (w.alloc (.cells #[] 43)) := (Below.refl _ _).alloc (Nat.le_refl _) _
  have hL := RL.two c d (hr.alloc (.cells #[] 43)) (hs.alloc (.cells #[] 43)) 25
  rw [show (w.alloc (.cells #[] 43)).heap.size = w.heap.size + 1 from by simp] at hL
  have hemp := World.ownsRow_lit (base := w.heap.size) (e := 43) (size := 3) w #[] 0 (Nat.le_refl _) (by simp [maxLen]) rfl
  obtain ⟨i0, hi, hz0, hz1, hz2⟩ := info_parts span_info
  replace hi := Lib.hid hi; replace hz0 := Lib.hid hz0; replace hz1 := Lib.hid hz1; replace hz2 := Lib.hid hz2
  have hw1 : Below w.heap.size w ((w.alloc (.cells #[] 43)).alloc (.cells #[.slice A m c, .slice B m' d] 25)) := hw0.alloc (by simp) _
  have hemp2 : Hid (∀ q : Nat, World.ownsRow (((w.alloc (.cells #[] 43)).alloc (.cells #[.slice A m c, .slice B m' d] 25)).drewN q) w.heap.size 43 3 (.slice (some ⟨w.heap.size, 0, none⟩) 0 0) (missL xs ys 0).length (flat (missL xs ys 0))) := fun q => (hemp.alloc _ : World.ownsRow _ _ _ _ _ _ _)
  clear hemp
  cases ha : alikeB [xs, ys] with
  | false =>
    have h0 : Hid (missS xs ys = []) := by show _ = _; simp [missS, ha]
    replace ha := Lib.hid ha
    go_enter Tryd.func28, Tryd.ntmps28
    go_wp2_with (go_at_call 41; refine (ralike_b _ _ _ _ _ hL _ ha.out).mono ?_; rintro e w' ⟨rfl, q, rfl⟩)
    go_ret
    exact RetS.mk (by rw [h0.out]; exact ⟨rfl, by omega, RC.nil _ _⟩) (below_drewN hw1 _)
  | true =>
    have h0 : Hid (missS xs ys = missL xs ys m) := by show _ = _; simp [missS, ha, hr.len]
    obtain rfl : m = m' := by rw [← hr.len, ← hs.len]; exact alike_len ha
    have hv : Hid (validB xs = true ∧ validB ys = true) := by show _ ∧ _; simp [alikeB, al1] at ha; exact ⟨ha.1, ha.2.1⟩
    have hm5 : m ≤ 5 := by have := valid_len hv.out.1; rw [hr.len] at this; exact this.2
    replace ha := Lib.hid ha
    go_enter Tryd.func28, Tryd.ntmps28
    go_wp2_with fail
    refine (ralike_b _ _ _ _ _ hL _ ha.out).mono ?_; rintro e w' ⟨rfl, q, rfl⟩
    go_wp2_with fail
    go_loopw [5, 6] (fun v i wr => ∃ k : Nat, k ≤ m ∧ i = .int .i64 k ∧ wr.ownsRow w.heap.size 43 3 v (missL xs ys k).length (flat (missL xs ys k)) ∧ Below w.heap.size w wr) (fun _ i _ => m - (intOf i).toNat)
    case atStart => exact ⟨0, Nat.zero_le _, rfl, hemp2.out q, below_drewN hw1 q⟩
    case round =>
      obtain ⟨k, hk, rfl, hown, hbk⟩ := hrel
      by_cases hlt : k < m
      · obtain ⟨b, o, x, rfl, hx, hc⟩ := (hr.below hbk).at_ hlt
        obtain ⟨b', o', y, rfl, hy, hc'⟩ := (hs.below hbk).at_ hlt
        have ⟨hx0, hx1⟩ := ok1_at hv.out.1 hx
        have hlb := Lib.hid (miss_len xs ys k)
        have hst : Hid (missL xs ys (k + 1) = missL xs ys k ++ if x < y then [⟨k, x + 1, y⟩] else []) := by show _ = _; rw [missL, getD_get hx, getD_get hy]
        replace hx := Lib.hid hx; replace hy := Lib.hid hy; replace hown := Lib.hid hown; replace hbk := Lib.hid hbk
        clear hr hs hL hw1 hw0
        have ek : (k : Int) < (m : Int) := by omega
        by_cases hxy : x < y
        · go_wp2_with fail
          go_quiet (fail)
          go_wp2_with fail
          have ewr : IntKind.i64.wrap (x + 1) = x + 1 := IntWalk.i64_in _ (by omega)
          have e63 : (missL xs ys k).length + 1 ≤ maxLen := by have := hlb.out; unfold maxLen; omega
          have e24 : ((missL xs ys k).length + 1) * 24 ≤ 140737488355328 := by have := hlb.out; omega
          have e63 := Lib.hid e63; have e24 := Lib.hid e24
          have ebase : Hid (w.heap.size ≤ ((wr.drewN (nq + 1)).alloc (.cells #[.int .i64 k, .int .i64 (x + 1), .int .i64 y] 43)).heap.size) := by have := hbk.out.size; show _ ≤ _; simp; omega
          go_region_law ((
            refine step_append_any _ rfl (.tmp 29) (.tmp 41) 37 rfl w.heap.size 43 i0 (.agg #[.int .i64 0, .int .i64 0, .int .i64 0]) 3 24 Tryd.underlying37 hi.out hz0.out hz1.out hz2.out rfl (Nat.zero_lt_succ _) u5 (missL xs ys k).length (flat (missL xs ys k)) ?_ ?_ (some ⟨wr.heap.size, 0, none⟩) 1 1 (spCells ⟨k, x + 1, y⟩) ?_ rfl ?_ (flat_one [⟨k, x + 1, y⟩]) e63.out e24.out ?_ ?_
            · simp [Act.eval, Act.put]
            · exact World.ownsRow.alloc (w := wr.drewN _) hown.out _
            · simp [Act.eval, Act.put]
            · exact RC.lit (wr.drewN _) _ _
            · exact ebase.out
            intro v1 w1 hown1 hg1 hat1))
          all_goals
            have hb1 := Lib.hid (miss_below hown.out hbk.out hg1)
            have ho1 : Hid (w1.ownsRow w.heap.size 43 3 v1 (missL xs ys (k + 1)).length (flat (missL xs ys (k + 1)))) := by show World.ownsRow _ _ _ _ _ _ _; rw [hst.out, if_pos hxy, flat_snoc, List.length_append]; exact hown1
            clear hown1 hg1 hat1 e63 e24 ebase
            go_wp2
            go_roundw
            case rel => exact ⟨k + 1, by omega, by go_num, ho1.out, hb1.out⟩
            case measure => simp [intOf]; omega
        · have ho1 : Hid (missL xs ys (k + 1) = missL xs ys k) := by show _ = _; rw [hst.out, if_neg hxy, List.append_nil]
          go_wp2_with fail
          go_quiet (fail)
          go_wp2_with fail
          go_roundw
          case rel => exact ⟨k + 1, by omega, by go_num, by rw [ho1.out]; exact hown.out, below_drewN hbk.out nq⟩
          case measure => simp [intOf]; omega
      · obtain rfl : k = m := by omega
        clear hr hs hL hw1 hw0
        replace hown := Lib.hid hown
        have hlb := Lib.hid (miss_len xs ys k)
        go_wp2_with fail
        go_ret
        exact RetS.of_own (by rw [h0.out]; exact hown.out) (by rw [h0.out]) (by have := hlb.out; omega) hbk
end Go.Proofs.YtfdchnepaaampaaDoor
