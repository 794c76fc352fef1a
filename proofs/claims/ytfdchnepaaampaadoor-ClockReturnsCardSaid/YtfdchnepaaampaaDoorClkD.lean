/- Walks: fold, Join and Meet of the clocks compute the plain functions of the text Spec. Conditions: the arguments read as lists. -/
import Derived.Test.YtfdchnepaaampaaDoorClkC
namespace Go.Proofs.YtfdchnepaaampaaDoor
set_option linter.unusedSimpArgs false
set_option linter.unusedVariables false
set_option linter.unusedSectionVars false
open Go.RowKit

theorem alike_head {l : List (List Int)} (h : alikeB l = true) : ∃ x t, l = x :: t ∧ validB x = true := by
  cases l with
  | nil => simp [alikeB] at h
  | cons x t => exact ⟨x, t, rfl, by simp [alikeB, al1] at h; exact h.1⟩
theorem valid_len {x : List Int} (h : validB x = true) : 1 ≤ x.length ∧ x.length ≤ 5 := by simp [validB] at h; omega

set_option maxHeartbeats 1600000 in
theorem fold_max (A : Option Addr) (n c : Nat) (l : List (List Int)) (w : World) (hr : RL w A n l) (hnc : n ≤ c) :
    Calls Tryd.prog 39 #[.func (.func 40) #[] #[], .slice A n c] w (RetI (foldS max l) w) := by
  have hlen := hr.le
  have hn := Lib.hid hr.len
  cases ha : alikeB l with
  | false =>
    replace ha := Lib.hid ha
    go_enter Tryd.func39, Tryd.ntmps39
    go_wp2_with (go_at_call 43; refine (alike_b _ _ _ _ _ hr _ ha.out).mono ?_; rintro e w' ⟨rfl, rfl⟩)
    go_ret
    refine RetI.mk ?_ (Below.refl _ _)
    unfold foldS; rw [ha.out]
    exact RI.nil _
  | true =>
    obtain ⟨x0, t, rfl, hv⟩ := alike_head ha
    have hx0 := valid_len hv
    replace ha := Lib.hid ha
    replace hv := Lib.hid hv
    have hn1 : 1 ≤ n := by rw [← hn.out]; simp
    obtain ⟨b, o, B, m, d, x, rfl, hx, hc, hrow⟩ := hr.at_ (k := 0) (by omega)
    obtain rfl : x0 = x := by simpa using hx
    clear hx
    have hm := Lib.hid hrow.len
    rw [hrow.len] at hx0
    rw [Nat.add_zero] at hc
    have hl0 : (0 : Int) < (n : Int) := by omega
    have hfold : Hid (foldS max (x0 :: t) = t.foldl (List.zipWith max) x0) := by show foldS max (x0 :: t) = _; unfold foldS; rw [ha.out]; rfl
    by_cases hc1 : c = 1
    · subst hc1
      obtain rfl : n = 1 := by omega
      have ht : Hid (t = []) := by have := hn.out; show t = []; simpa using this
      go_enter Tryd.func39, Tryd.ntmps39
      go_wp2_with fail
      refine (alike_b _ _ _ _ _ hr _ ha.out).mono ?_; rintro e w' ⟨rfl, rfl⟩
      go_wp2_with fail
      refine (clone_own _ _ _ _ _ hrow (by omega) (by omega)).mono ?_; rintro e w1 ⟨g, cap, rfl, hO, hb1⟩
      go_wp2_with fail
      refine wp_loop_rounds 1 ?_; rw [rounds_succ]
      go_wp2
      go_ret
      refine RetI.mk ?_ hb1
      rw [hfold.out, ht.out]
      exact hO.ri
    · have hcn : ¬ (c : Int) < 1 := by omega
      go_enter Tryd.func39, Tryd.ntmps39
      go_wp2_with fail
      refine (alike_b _ _ _ _ _ hr _ ha.out).mono ?_; rintro e w' ⟨rfl, rfl⟩
      go_wp2_with fail
      refine (clone_own _ _ _ _ _ hrow (by omega) (by omega)).mono ?_; rintro e w1 ⟨g, cap, rfl, hO, hb1⟩
      go_wp2_with fail
      go_loopw [20] (fun i wr => ∃ k : Nat, k ≤ n - 1 ∧ i = .int .i64 k ∧ OI wr w.heap.size g cap m ((t.take k).foldl (List.zipWith max) x0) ∧ Below w.heap.size w wr) (fun i _ => (n - 1) - (intOf i).toNat)
      case atStart => exact ⟨0, Nat.zero_le _, rfl, hO, hb1⟩
      case round =>
        obtain ⟨k, hk, rfl, hOk, hbk⟩ := hrel
        clear hO hb1
        by_cases hlt : k < n - 1
        · obtain ⟨B', m', d', y, hy, hcy, hrowy⟩ := hr.row (k := k + 1) (by omega)
          have hy' : Hid (t[k]? = some y) := by show t[k]? = some y; simpa using hy
          obtain rfl : m' = m := by rw [← hrowy.len, ← hm.out]; exact alike_at ha.out hy
          replace hy := Lib.hid hy
          have hcy' : wr.cell? ⟨b, o + 1 + k, none⟩ = some (.slice B' m' d') := by
            rw [hbk.cell (hr.blk (by omega)), ← hcy, Nat.add_assoc, Nat.add_comm 1 k]
          obtain ⟨acc, hacc⟩ : ∃ acc, (t.take k).foldl (List.zipWith max) x0 = acc := ⟨_, rfl⟩
          have hstep : Hid ((t.take (k + 1)).foldl (List.zipWith max) x0 = List.zipWith max acc y) := by show _ = _; rw [foldl_snoc _ _ hy'.out, hacc]
          rw [hacc] at hOk
          have hla : Hid (acc.length = y.length) := by show _ = _; rw [hOk.len, hrowy.len]
          have hll := Lib.hid hOk.len
          have hly := Lib.hid hrowy.len
          clear hacc hc hcy hrow hm
          go_wp2_with fail
          obtain ⟨wo, rfl⟩ : ∃ wo : World, wo = wr := ⟨_, rfl⟩
          go_loopw [26] (fun i wi => ∃ j : Nat, j ≤ m' ∧ i = .int .i64 j ∧ OI wi w.heap.size g cap m' ((List.zipWith max acc y).take j ++ acc.drop j) ∧ Below w.heap.size w wi) (fun i _ => m' - (intOf i).toNat)
          case atStart => exact ⟨0, Nat.zero_le _, rfl, by simpa using hOk, hbk⟩
          case round =>
            obtain ⟨j, hj, rfl, hOj, hbj⟩ := hrel
            clear hOk hcy'
            by_cases hltj : j < m'
            · obtain ⟨a, ha', hca⟩ := hOj.cell hltj
              obtain ⟨bb, oo, v, rfl, hvy, hcv⟩ := (hrowy.below hbj).at_ hltj
              have hz := Lib.hid (zw_step (f := max) hla.out (zw_at hla.out ha') hvy)
              have hfr := hOj.frozen j
              replace ha' := Lib.hid ha'
              replace hvy := Lib.hid hvy
              have hgl := hOj.lt.1
              have hset := Lib.hid (hOj.set j (max a v))
              have hbs := Lib.hid (hbj.setCell (p := ⟨g, j, none⟩) hgl (.int .i64 (max a v)))
              clear hbk hrowy hbj hOj
              go_wp2_with (go_at_call 40; refine (max_any _ _ _).mono ?_; rintro e w' ⟨rfl, rfl⟩)
              go_roundw
              case rel => exact ⟨j + 1, by omega, by go_num, by rw [← hz.out]; exact hset.out, hbs.out⟩
              case measure => simp [intOf]; omega
            · have hdone := Lib.hid (zw_done (f := max) (j := j) hla.out (by rw [hll.out]; omega))
              rw [hdone.out] at hOj
              clear hbk hrowy hdone
              go_wp2_with fail
              go_roundw
              case rel => exact ⟨k + 1, by omega, by go_num, by rw [hstep.out]; exact hOj, hbj⟩
              case measure => simp [intOf]; omega
        · have hke : Hid (t.take k = t) := by show _ = _; exact List.take_of_length_le (by have := hn.out; simp at this; omega)
          rw [hke.out] at hOk
          go_wp2
          go_ret
          refine RetI.mk ?_ hbk
          rw [hfold.out]
          exact hOk.ri

set_option maxHeartbeats 1600000 in
theorem fold_min (A : Option Addr) (n c : Nat) (l : List (List Int)) (w : World) (hr : RL w A n l) (hnc : n ≤ c) :
    Calls Tryd.prog 39 #[.func (.func 42) #[] #[], .slice A n c] w (RetI (foldS min l) w) := by
  have hlen := hr.le
  have hn := Lib.hid hr.len
  cases ha : alikeB l with
  | false =>
    replace ha := Lib.hid ha
    go_enter Tryd.func39, Tryd.ntmps39
    go_wp2_with (go_at_call 43; refine (alike_b _ _ _ _ _ hr _ ha.out).mono ?_; rintro e w' ⟨rfl, rfl⟩)
    go_ret
    refine RetI.mk ?_ (Below.refl _ _)
    unfold foldS; rw [ha.out]
    exact RI.nil _
  | true =>
    obtain ⟨x0, t, rfl, hv⟩ := alike_head ha
    have hx0 := valid_len hv
    replace ha := Lib.hid ha
    replace hv := Lib.hid hv
    have hn1 : 1 ≤ n := by rw [← hn.out]; simp
    obtain ⟨b, o, B, m, d, x, rfl, hx, hc, hrow⟩ := hr.at_ (k := 0) (by omega)
    obtain rfl : x0 = x := by simpa using hx
    clear hx
    have hm := Lib.hid hrow.len
    rw [hrow.len] at hx0
    rw [Nat.add_zero] at hc
    have hl0 : (0 : Int) < (n : Int) := by omega
    have hfold : Hid (foldS min (x0 :: t) = t.foldl (List.zipWith min) x0) := by show foldS min (x0 :: t) = _; unfold foldS; rw [ha.out]; rfl
    by_cases hc1 : c = 1
    · subst hc1
      obtain rfl : n = 1 := by omega
      have ht : Hid (t = []) := by have := hn.out; show t = []; simpa using this
      go_enter Tryd.func39, Tryd.ntmps39
      go_wp2_with fail
      refine (alike_b _ _ _ _ _ hr _ ha.out).mono ?_; rintro e w' ⟨rfl, rfl⟩
      go_wp2_with fail
      refine (clone_own _ _ _ _ _ hrow (by omega) (by omega)).mono ?_; rintro e w1 ⟨g, cap, rfl, hO, hb1⟩
      go_wp2_with fail
      refine wp_loop_rounds 1 ?_; rw [rounds_succ]
      go_wp2
      go_ret
      refine RetI.mk ?_ hb1
      rw [hfold.out, ht.out]
      exact hO.ri
    · have hcn : ¬ (c : Int) < 1 := by omega
      go_enter Tryd.func39, Tryd.ntmps39
      go_wp2_with fail
      refine (alike_b _ _ _ _ _ hr _ ha.out).mono ?_; rintro e w' ⟨rfl, rfl⟩
      go_wp2_with fail
      refine (clone_own _ _ _ _ _ hrow (by omega) (by omega)).mono ?_; rintro e w1 ⟨g, cap, rfl, hO, hb1⟩
      go_wp2_with fail
      go_loopw [20] (fun i wr => ∃ k : Nat, k ≤ n - 1 ∧ i = .int .i64 k ∧ OI wr w.heap.size g cap m ((t.take k).foldl (List.zipWith min) x0) ∧ Below w.heap.size w wr) (fun i _ => (n - 1) - (intOf i).toNat)
      case atStart => exact ⟨0, Nat.zero_le _, rfl, hO, hb1⟩
      case round =>
        obtain ⟨k, hk, rfl, hOk, hbk⟩ := hrel
        clear hO hb1
        by_cases hlt : k < n - 1
        · obtain ⟨B', m', d', y, hy, hcy, hrowy⟩ := hr.row (k := k + 1) (by omega)
          have hy' : Hid (t[k]? = some y) := by show t[k]? = some y; simpa using hy
          obtain rfl : m' = m := by rw [← hrowy.len, ← hm.out]; exact alike_at ha.out hy
          replace hy := Lib.hid hy
          have hcy' : wr.cell? ⟨b, o + 1 + k, none⟩ = some (.slice B' m' d') := by
            rw [hbk.cell (hr.blk (by omega)), ← hcy, Nat.add_assoc, Nat.add_comm 1 k]
          obtain ⟨acc, hacc⟩ : ∃ acc, (t.take k).foldl (List.zipWith min) x0 = acc := ⟨_, rfl⟩
          have hstep : Hid ((t.take (k + 1)).foldl (List.zipWith min) x0 = List.zipWith min acc y) := by show _ = _; rw [foldl_snoc _ _ hy'.out, hacc]
          rw [hacc] at hOk
          have hla : Hid (acc.length = y.length) := by show _ = _; rw [hOk.len, hrowy.len]
          have hll := Lib.hid hOk.len
          have hly := Lib.hid hrowy.len
          clear hacc hc hcy hrow hm
          go_wp2_with fail
          obtain ⟨wo, rfl⟩ : ∃ wo : World, wo = wr := ⟨_, rfl⟩
          go_loopw [26] (fun i wi => ∃ j : Nat, j ≤ m' ∧ i = .int .i64 j ∧ OI wi w.heap.size g cap m' ((List.zipWith min acc y).take j ++ acc.drop j) ∧ Below w.heap.size w wi) (fun i _ => m' - (intOf i).toNat)
          case atStart => exact ⟨0, Nat.zero_le _, rfl, by simpa using hOk, hbk⟩
          case round =>
            obtain ⟨j, hj, rfl, hOj, hbj⟩ := hrel
            clear hOk hcy'
            by_cases hltj : j < m'
            · obtain ⟨a, ha', hca⟩ := hOj.cell hltj
              obtain ⟨bb, oo, v, rfl, hvy, hcv⟩ := (hrowy.below hbj).at_ hltj
              have hz := Lib.hid (zw_step (f := min) hla.out (zw_at hla.out ha') hvy)
              have hfr := hOj.frozen j
              replace ha' := Lib.hid ha'
              replace hvy := Lib.hid hvy
              have hgl := hOj.lt.1
              have hset := Lib.hid (hOj.set j (min a v))
              have hbs := Lib.hid (hbj.setCell (p := ⟨g, j, none⟩) hgl (.int .i64 (min a v)))
              clear hbk hrowy hbj hOj
              go_wp2_with (go_at_call 42; refine (min_any _ _ _).mono ?_; rintro e w' ⟨rfl, rfl⟩)
              go_roundw
              case rel => exact ⟨j + 1, by omega, by go_num, by rw [← hz.out]; exact hset.out, hbs.out⟩
              case measure => simp [intOf]; omega
            · have hdone := Lib.hid (zw_done (f := min) (j := j) hla.out (by rw [hll.out]; omega))
              rw [hdone.out] at hOj
              clear hbk hrowy hdone
              go_wp2_with fail
              go_roundw
              case rel => exact ⟨k + 1, by omega, by go_num, by rw [hstep.out]; exact hOj, hbj⟩
              case measure => simp [intOf]; omega
        · have hke : Hid (t.take k = t) := by show _ = _; exact List.take_of_length_le (by have := hn.out; simp at this; omega)
          rw [hke.out] at hOk
          go_wp2
          go_ret
          refine RetI.mk ?_ hbk
          rw [hfold.out]
          exact hOk.ri

set_option maxHeartbeats 400000 in
theorem join_any (A : Option Addr) (n c : Nat) (l : List (List Int)) (w : World) (hr : RL w A n l) (hnc : n ≤ c) :
    Calls Tryd.prog 18 #[.slice A n c] w (RetI (foldS max l) w) := by
  go_enter Tryd.func18, Tryd.ntmps18
  go_wp2_with (go_at_call 39; refine (fold_max _ _ _ _ _ hr hnc).mono ?_; rintro e w' ⟨A', n', c', rfl, hI, hb⟩)
  go_ret
  exact RetI.mk hI hb
set_option maxHeartbeats 400000 in
theorem meet_any (A : Option Addr) (n c : Nat) (l : List (List Int)) (w : World) (hr : RL w A n l) (hnc : n ≤ c) :
    Calls Tryd.prog 20 #[.slice A n c] w (RetI (foldS min l) w) := by
  go_enter Tryd.func20, Tryd.ntmps20
  go_wp2_with (go_at_call 39; refine (fold_min _ _ _ _ _ hr hnc).mono ?_; rintro e w' ⟨A', n', c', rfl, hI, hb⟩)
  go_ret
  exact RetI.mk hI hb
end Go.Proofs.YtfdchnepaaampaaDoor
