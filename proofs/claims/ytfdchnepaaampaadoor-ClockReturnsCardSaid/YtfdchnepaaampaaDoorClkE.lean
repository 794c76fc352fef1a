/- Walks: Join and Meet of the clocks' reference compute the plain functions of the text Spec. Conditions: the arguments read as lists. -/
import Derived.Test.YtfdchnepaaampaaDoorClkD
namespace Go.Proofs.YtfdchnepaaampaaDoor
set_option linter.unusedSimpArgs false
set_option linter.unusedVariables false
set_option linter.unusedSectionVars false
open Go.RowKit

theorem cell_alloc {w : World} {b off : Nat} {v : Value} (hb : b < w.heap.size) (h : w.cell? ⟨b, off, none⟩ = some v) (o : Obj) : (w.alloc o).cell? ⟨b, off, none⟩ = some v :=
  (World.cell?_alloc_lt w o ⟨b, off, none⟩ hb).trans h

set_option maxHeartbeats 1600000 in
set_option maxRecDepth 100000 in
theorem rfold_max (A : Option Addr) (n c : Nat) (l : List (List Int)) (w : World) (hr : RL w A n l) :
    Calls Tryd.prog 19 #[.slice A n c] w (RetI (foldS max l) w) := by
  have hlen := hr.le
  have hn := Lib.hid hr.len
  obtain ⟨i0, hi, hz0, hz1, hz2⟩ := info_parts int_info
  replace hi := Lib.hid hi; replace hz0 := Lib.hid hz0; replace hz1 := Lib.hid hz1; replace hz2 := Lib.hid hz2
  cases ha : alikeB l with
  | false =>
    replace ha := Lib.hid ha
    clear hi hz0 hz1 hz2
    go_enter Tryd.func19, Tryd.ntmps19
    go_wp2_with (go_at_call 41; refine (ralike_b _ _ _ _ _ hr _ ha.out).mono ?_; rintro e w' ⟨rfl, q, rfl⟩)
    go_ret
    refine RetI.mk ?_ (below_drewN_self _ _ _)
    unfold foldS; rw [ha.out]
    exact RI.nil _
  | true =>
    obtain ⟨x0, t, hl, hv⟩ := alike_head ha
    have hx0 := valid_len hv
    have hfold : Hid (foldS max l = l.foldl (List.zipWith max) x0) := by
      show _ = _; unfold foldS; rw [ha]; simp only [if_true]; rw [← fold_all _ (by intro x; omega)]; rw [hl]; rfl
    have hn1 : 1 ≤ n := by rw [← hn.out, hl]; simp
    obtain ⟨b, o, B, m, d, x, rfl, hx, hc, hrow⟩ := hr.at_ (k := 0) (by omega)
    obtain rfl : x0 = x := by rw [hl] at hx; simpa using hx
    have hh0 : Hid (x0 = l.headD []) := by show _ = _; rw [hl]; rfl
    clear hx hl
    replace ha := Lib.hid ha
    replace hv := Lib.hid hv
    have hm := Lib.hid hrow.len
    rw [hrow.len] at hx0
    rw [Nat.add_zero] at hc
    have hl0 : (0 : Int) < (n : Int) := by omega
    have hl1 : 0 < n := by omega
    have hbb := hr.blk hl1
    go_enter Tryd.func19, Tryd.ntmps19
    go_wp2_with fail
    refine (ralike_b _ _ _ _ _ hr _ ha.out).mono ?_; rintro e w' ⟨rfl, q, rfl⟩
    have hemp := ((w.drewN q).ownsRow_lit (base := w.heap.size) (e := 3) (size := 1) #[] 0 (by simp) (by simp [maxLen]) rfl)
    have hrow' : RI ((w.drewN q).alloc (.cells #[] 3)) B m x0 := (hrow.drewN q).alloc _
    have hcl : ((w.drewN q).alloc (.cells #[] 3)).cell? ⟨b, o, none⟩ = some (.slice B m d) := cell_alloc (w := w.drewN q) hbb hc _
    replace hemp := Lib.hid hemp
    go_wp2_with (first
      | (at_builtin
         refine wpList_append_any _ rfl (.tmp 9) (.tmp 12) 25 rfl w.heap.size 3 i0 (.int .i64 0) 1 8 Tryd.underlying25 hi.out hz0.out hz1.out hz2.out rfl (by omega) _ 0 [] rfl hemp.out B m d (x0.map (.int .i64)) rfl (by rw [List.length_map, hm.out]; omega) hrow'.2.2 (ints_one _) (by unfold maxLen; omega) (by omega) (by simp) ?_
         intro v1 w1 hown1 hg1 hat1))
    obtain ⟨g, cap, hv1, _⟩ := own_form hown1 (fun e => by have := (hat1.2.1 e).1; cases this)
    subst hv1
    have hb1 : Below w.heap.size w w1 := ((below_drewN_self _ _ _).alloc (Nat.le_refl _) _).grown hg1 (by simp) (by intro k hk; cases hk; simp)
    rw [Nat.zero_add, List.nil_append] at hown1
    have hO : OI w1 w.heap.size g cap m x0 := ⟨hm.out, by omega, hown1⟩
    clear hown1 hg1 hat1 hcl hrow' hemp
    go_loopw [4] (fun i wr => ∃ k : Nat, k ≤ n ∧ i = .int .i64 k ∧ OI wr w.heap.size g cap m ((l.take k).foldl (List.zipWith max) x0) ∧ Below w.heap.size w wr) (fun i _ => n - (intOf i).toNat)
    case atStart => exact ⟨0, Nat.zero_le _, rfl, hO, hb1⟩
    case round =>
      obtain ⟨k, hk, rfl, hOk, hbk⟩ := hrel
      clear hO hb1
      by_cases hlt : k < n
      · obtain ⟨B', m', d', y, hy, hcy, hrowy⟩ := hr.row (k := k) (by omega)
        obtain rfl : m' = m := by rw [← hrowy.len, ← hm.out, hh0.out]; exact alike_at ha.out hy
        have hy' := Lib.hid hy; clear hy
        obtain ⟨acc, hacc⟩ : ∃ acc, (l.take k).foldl (List.zipWith max) x0 = acc := ⟨_, rfl⟩
        have hstep : Hid ((l.take (k + 1)).foldl (List.zipWith max) x0 = List.zipWith max acc y) := by show _ = _; rw [foldl_snoc _ _ hy'.out, hacc]
        rw [hacc] at hOk
        have hla : Hid (acc.length = y.length) := by show _ = _; rw [hOk.len, hrowy.len]
        have hll := Lib.hid hOk.len
        have hbb := hr.blk (by omega)
        clear hacc hc hrow hm
        go_wp2_with fail
        obtain ⟨wo, rfl⟩ : ∃ wo : World, wo = wr := ⟨_, rfl⟩
        go_loopw [5] (fun i wi => ∃ j : Nat, j ≤ m' ∧ i = .int .i64 j ∧ OI wi w.heap.size g cap m' ((List.zipWith max acc y).take j ++ acc.drop j) ∧ Below w.heap.size w wi) (fun i _ => m' - (intOf i).toNat)
        case atStart => exact ⟨0, Nat.zero_le _, rfl, by simpa using hOk, hbk⟩
        case round =>
          obtain ⟨j, hj, rfl, hOj, hbj⟩ := hrel
          clear hOk
          have hcyi : wr.cell? ⟨b, o + k, none⟩ = some (.slice B' m' d') := (hbj.cell hbb).trans hcy
          by_cases hltj : j < m'
          · obtain ⟨a, ha', hca⟩ := hOj.cell hltj
            obtain ⟨bb, oo, v, rfl, hvy, hcv⟩ := (hrowy.below hbj).at_ hltj
            have hz := Lib.hid (zw_step (f := max) hla.out (zw_at hla.out ha') hvy)
            have hsame := Lib.hid (set_same ha')
            have hfr := hOj.frozen j
            replace ha' := Lib.hid ha'
            replace hvy := Lib.hid hvy
            have hgl := hOj.lt.1
            have hgl2 := hOj.lt.2
            replace hOj := Lib.hid hOj
            replace hbj := Lib.hid hbj
            clear hbk hrowy hcy
            have ej : (j : Int) < (m' : Int) := by omega
            have ek : (k : Int) < (n : Int) := by omega
            go_wp2_with fail
            go_quiet (fail)
            go_wp2_with fail
            · have hmx : max a v = v := by omega
              go_roundw
              case rel => exact ⟨j + 1, by omega, by go_num, by rw [← hz.out, hmx]; exact (hOj.out.drewN nq).set j v, (below_drewN hbj.out nq).setCell (p := ⟨g, j, none⟩) hgl _⟩
              case measure => simp [intOf]; omega
            · have hmx : max a v = a := by omega
              go_roundw
              case rel => exact ⟨j + 1, by omega, by go_num, by rw [← hz.out, hmx, hsame.out]; exact hOj.out.drewN nq, below_drewN hbj.out nq⟩
              case measure => simp [intOf]; omega
          · have hdone := Lib.hid (zw_done (f := max) (j := j) hla.out (by rw [hll.out]; omega))
            rw [hdone.out] at hOj
            clear hbk hrowy hdone hcyi
            go_wp2_with fail
            go_roundw
            case rel => exact ⟨k + 1, by omega, by go_num, by rw [hstep.out]; exact hOj, hbj⟩
            case measure => simp [intOf]; omega
      · have hke : Hid (l.take k = l) := by show _ = _; exact List.take_of_length_le (by rw [hn.out]; omega)
        rw [hke.out] at hOk
        clear hc hbb
        go_wp2
        go_ret
        refine RetI.mk ?_ hbk
        rw [hfold.out]
        simpa using hOk.ri

set_option maxHeartbeats 1600000 in
set_option maxRecDepth 100000 in
theorem rfold_min (A : Option Addr) (n c : Nat) (l : List (List Int)) (w : World) (hr : RL w A n l) :
    Calls Tryd.prog 21 #[.slice A n c] w (RetI (foldS min l) w) := by
  have hlen := hr.le
  have hn := Lib.hid hr.len
  obtain ⟨i0, hi, hz0, hz1, hz2⟩ := info_parts int_info
  replace hi := Lib.hid hi; replace hz0 := Lib.hid hz0; replace hz1 := Lib.hid hz1; replace hz2 := Lib.hid hz2
  cases ha : alikeB l with
  | false =>
    replace ha := Lib.hid ha
    clear hi hz0 hz1 hz2
    go_enter Tryd.func21, Tryd.ntmps21
    go_wp2_with (go_at_call 41; refine (ralike_b _ _ _ _ _ hr _ ha.out).mono ?_; rintro e w' ⟨rfl, q, rfl⟩)
    go_ret
    refine RetI.mk ?_ (below_drewN_self _ _ _)
    unfold foldS; rw [ha.out]
    exact RI.nil _
  | true =>
    obtain ⟨x0, t, hl, hv⟩ := alike_head ha
    have hx0 := valid_len hv
    have hfold : Hid (foldS min l = l.foldl (List.zipWith min) x0) := by
      show _ = _; unfold foldS; rw [ha]; simp only [if_true]; rw [← fold_all _ (by intro x; omega)]; rw [hl]; rfl
    have hn1 : 1 ≤ n := by rw [← hn.out, hl]; simp
    obtain ⟨b, o, B, m, d, x, rfl, hx, hc, hrow⟩ := hr.at_ (k := 0) (by omega)
    obtain rfl : x0 = x := by rw [hl] at hx; simpa using hx
    have hh0 : Hid (x0 = l.headD []) := by show _ = _; rw [hl]; rfl
    clear hx hl
    replace ha := Lib.hid ha
    replace hv := Lib.hid hv
    have hm := Lib.hid hrow.len
    rw [hrow.len] at hx0
    rw [Nat.add_zero] at hc
    have hl0 : (0 : Int) < (n : Int) := by omega
    have hl1 : 0 < n := by omega
    have hbb := hr.blk hl1
    go_enter Tryd.func21, Tryd.ntmps21
    go_wp2_with fail
    refine (ralike_b _ _ _ _ _ hr _ ha.out).mono ?_; rintro e w' ⟨rfl, q, rfl⟩
    have hemp := ((w.drewN q).ownsRow_lit (base := w.heap.size) (e := 3) (size := 1) #[] 0 (by simp) (by simp [maxLen]) rfl)
    have hrow' : RI ((w.drewN q).alloc (.cells #[] 3)) B m x0 := (hrow.drewN q).alloc _
    have hcl : ((w.drewN q).alloc (.cells #[] 3)).cell? ⟨b, o, none⟩ = some (.slice B m d) := cell_alloc (w := w.drewN q) hbb hc _
    replace hemp := Lib.hid hemp
    go_wp2_with (first
      | (at_builtin
         refine wpList_append_any _ rfl (.tmp 9) (.tmp 12) 25 rfl w.heap.size 3 i0 (.int .i64 0) 1 8 Tryd.underlying25 hi.out hz0.out hz1.out hz2.out rfl (by omega) _ 0 [] rfl hemp.out B m d (x0.map (.int .i64)) rfl (by rw [List.length_map, hm.out]; omega) hrow'.2.2 (ints_one _) (by unfold maxLen; omega) (by omega) (by simp) ?_
         intro v1 w1 hown1 hg1 hat1))
    obtain ⟨g, cap, hv1, _⟩ := own_form hown1 (fun e => by have := (hat1.2.1 e).1; cases this)
    subst hv1
    have hb1 : Below w.heap.size w w1 := ((below_drewN_self _ _ _).alloc (Nat.le_refl _) _).grown hg1 (by simp) (by intro k hk; cases hk; simp)
    rw [Nat.zero_add, List.nil_append] at hown1
    have hO : OI w1 w.heap.size g cap m x0 := ⟨hm.out, by omega, hown1⟩
    clear hown1 hg1 hat1 hcl hrow' hemp
    go_loopw [4] (fun i wr => ∃ k : Nat, k ≤ n ∧ i = .int .i64 k ∧ OI wr w.heap.size g cap m ((l.take k).foldl (List.zipWith min) x0) ∧ Below w.heap.size w wr) (fun i _ => n - (intOf i).toNat)
    case atStart => exact ⟨0, Nat.zero_le _, rfl, hO, hb1⟩
    case round =>
      obtain ⟨k, hk, rfl, hOk, hbk⟩ := hrel
      clear hO hb1
      by_cases hlt : k < n
      · obtain ⟨B', m', d', y, hy, hcy, hrowy⟩ := hr.row (k := k) (by omega)
        obtain rfl : m' = m := by rw [← hrowy.len, ← hm.out, hh0.out]; exact alike_at ha.out hy
        have hy' := Lib.hid hy; clear hy
        obtain ⟨acc, hacc⟩ : ∃ acc, (l.take k).foldl (List.zipWith min) x0 = acc := ⟨_, rfl⟩
        have hstep : Hid ((l.take (k + 1)).foldl (List.zipWith min) x0 = List.zipWith min acc y) := by show _ = _; rw [foldl_snoc _ _ hy'.out, hacc]
        rw [hacc] at hOk
        have hla : Hid (acc.length = y.length) := by show _ = _; rw [hOk.len, hrowy.len]
        have hll := Lib.hid hOk.len
        have hbb := hr.blk (by omega)
        clear hacc hc hrow hm
        go_wp2_with fail
        obtain ⟨wo, rfl⟩ : ∃ wo : World, wo = wr := ⟨_, rfl⟩
        go_loopw [5] (fun i wi => ∃ j : Nat, j ≤ m' ∧ i = .int .i64 j ∧ OI wi w.heap.size g cap m' ((List.zipWith min acc y).take j ++ acc.drop j) ∧ Below w.heap.size w wi) (fun i _ => m' - (intOf i).toNat)
        case atStart => exact ⟨0, Nat.zero_le _, rfl, by simpa using hOk, hbk⟩
        case round =>
          obtain ⟨j, hj, rfl, hOj, hbj⟩ := hrel
          clear hOk
          have hcyi : wr.cell? ⟨b, o + k, none⟩ = some (.slice B' m' d') := (hbj.cell hbb).trans hcy
          by_cases hltj : j < m'
          · obtain ⟨a, ha', hca⟩ := hOj.cell hltj
            obtain ⟨bb, oo, v, rfl, hvy, hcv⟩ := (hrowy.below hbj).at_ hltj
            have hz := Lib.hid (zw_step (f := min) hla.out (zw_at hla.out ha') hvy)
            have hsame := Lib.hid (set_same ha')
            have hfr := hOj.frozen j
            replace ha' := Lib.hid ha'
            replace hvy := Lib.hid hvy
            have hgl := hOj.lt.1
            have hgl2 := hOj.lt.2
            replace hOj := Lib.hid hOj
            replace hbj := Lib.hid hbj
            clear hbk hrowy hcy
            have ej : (j : Int) < (m' : Int) := by omega
            have ek : (k : Int) < (n : Int) := by omega
            go_wp2_with fail
            go_quiet (fail)
            go_wp2_with fail
            · have hmx : min a v = v := by omega
              go_roundw
              case rel => exact ⟨j + 1, by omega, by go_num, by rw [← hz.out, hmx]; exact (hOj.out.drewN nq).set j v, (below_drewN hbj.out nq).setCell (p := ⟨g, j, none⟩) hgl _⟩
              case measure => simp [intOf]; omega
            · have hmx : min a v = a := by omega
              go_roundw
              case rel => exact ⟨j + 1, by omega, by go_num, by rw [← hz.out, hmx, hsame.out]; exact hOj.out.drewN nq, below_drewN hbj.out nq⟩
              case measure => simp [intOf]; omega
          · have hdone := Lib.hid (zw_done (f := min) (j := j) hla.out (by rw [hll.out]; omega))
            rw [hdone.out] at hOj
            clear hbk hrowy hdone hcyi
            go_wp2_with fail
            go_roundw
            case rel => exact ⟨k + 1, by omega, by go_num, by rw [hstep.out]; exact hOj, hbj⟩
            case measure => simp [intOf]; omega
      · have hke : Hid (l.take k = l) := by show _ = _; exact List.take_of_length_le (by rw [hn.out]; omega)
        rw [hke.out] at hOk
        clear hc hbb
        go_wp2
        go_ret
        refine RetI.mk ?_ hbk
        rw [hfold.out]
        simpa using hOk.ri

end Go.Proofs.YtfdchnepaaampaaDoor
