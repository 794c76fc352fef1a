/- Walk of the law ClockReturns: it answers true. Conditions: the arguments read as lists, the library's variables and its table of powers stand. -/
import Derived.Test.YtfdchnepaaampaaDoorLawB
import Derived.Test.YtfdchnepaaampaaDoorClkY
namespace Go.Proofs.YtfdchnepaaampaaDoor
set_option linter.unusedSimpArgs false
set_option linter.unusedVariables false
set_option linter.unusedSectionVars false
open Go.RowKit

theorem fmtS_len (xs : List Int) : (fmtS xs).length ≤ 27 := by
  unfold fmtS
  split
  · rename_i h
    have h5 := valid_len h
    have := numsT_len (xs := xs) (by simp only [validB, Bool.and_eq_true] at h; exact h.1.1)
    simp; omega
  · simp
theorem parQ_fmt {xs : List Int} (h : validB xs = true) : parQ (fmtS xs) = (xs, 0) := by
  unfold parQ; rw [(clkP_iff _ _).2 ⟨h, rfl⟩]
theorem parQ_cases (l : List UInt8) : (∃ c, parQ l = (c, 0) ∧ fmtS c = l) ∨ parQ l = ([], 3) := by
  unfold parQ
  cases h : clkP l with
  | none => exact .inr rfl
  | some c => exact .inl ⟨c, rfl, ((clkP_iff _ _).1 h).2⟩
theorem RetE.ex {xs : List Int} {z : Int} {w : World} {e : Ending} {w' : World} (h : RetE (xs, z) w e w') : ∃ A n c, e = .returned (.tuple #[.slice A n c, .int .i64 z]) ∧ RI w' A n xs ∧ Below w.heap.size w w' := h
theorem bytes_back (l : List UInt8) : (⟨l.toArray⟩ : ByteArray).data.toList = l := by simp

set_option maxHeartbeats 3200000 in
set_option maxRecDepth 100000 in
theorem law_returns (A : Option Addr) (n c : Nat) (xs : List Int) (b : ByteArray) (w : World) (hr : RI w A n xs) (ht : Tab w) (hv : Vars w) :
    Calls Tryd.prog 10 #[.slice A n c, .string b] w (Law w) := by
  have hnl := hr.le
  have hw : Below w.heap.size w w := Below.refl _ _
  go_enter Tryd.func10, Tryd.ntmps10
  go_wp2_with fail
  refine (awake_any _ ht).mono ?_
  rintro e w1 ⟨rfl, hbK⟩
  replace hr := hr.below hbK; replace ht := ht.below hbK; replace hv := hv.below hbK
  replace hw := hw.trans hbK
  clear hbK
  by_cases h8 : 8 < n
  · go_wp2_with fail
    go_ret
    exact Law.mk hw
  · by_cases h40 : 40 < b.size
    · go_wp2_with fail
      go_ret
      exact Law.mk hw
    · have hf1 := Lib.hid (format_any A n c xs w1 hr ht)
      cases hval : validB xs with
      | true =>
        have hq1 := parQ_fmt hval
        obtain ⟨s, hs⟩ : ∃ s : ByteArray, s = ⟨(fmtS xs).toArray⟩ := ⟨_, rfl⟩
        have hsd : s.data.toList = fmtS xs := by rw [hs]
        have hss : s.size ≤ 27 := by have := fmtS_len xs; rw [hs]; simpa [ByteArray.size] using this
        rw [← hs] at hf1
        rw [← hsd] at hq1
        clear hs hsd
        replace hq1 := Lib.hid hq1
        replace hval := Lib.hid hval
        go_wp2_with fail
        refine hf1.out.mono ?_
        rintro e w2 ⟨rfl, hb2⟩
        replace hr := hr.below hb2; replace ht := ht.below hb2; replace hv := hv.below hb2
        replace hw := hw.trans (hb2.mono hw.size)
        clear hf1 hb2
        have hvb := Lib.hid (valid_b A n c xs w2 hr true hval.out)
        go_wp2_with fail
        refine hvb.out.mono ?_; rintro e w' ⟨rfl, rfl⟩
        have hp := Lib.hid (parse_any s w2 (by omega) hv ht)
        rw [hq1.out] at hp
        clear hvb
        go_wp2_with fail
        refine hp.out.mono ?_
        rintro e w3 hx
        obtain ⟨B3, m3, d3, rfl, hs3, hb3⟩ := RetE.ex hx
        replace hr := hr.below hb3; replace ht := ht.below hb3; replace hv := hv.below hb3
        replace hw := hw.trans (hb3.mono hw.size)
        clear hp hx hb3
        go_wp2_with fail
        refine (equal_b A B3 n m3 c d3 xs xs _ hr hs3 true (by simp)).mono ?_
        rintro e w' ⟨rfl, j, rfl⟩
        replace ht : Tab (w3.drewN j) := ht.below (below_drewN_self _ _ _)
        replace hv : Vars (w3.drewN j) := hv.below (below_drewN_self _ _ _)
        replace hw := below_drewN hw j
        clear hr hs3
        have hp := Lib.hid (parse_any b (w3.drewN j) (by omega) hv ht)
        rcases parQ_cases b.data.toList with ⟨c', hq, hf⟩ | hq
        · rw [hq] at hp
          clear hq hv
          go_wp2_with fail
          refine hp.out.mono ?_
          rintro e w7 hx
          obtain ⟨B7, m7, d7, rfl, hs7, hb7⟩ := RetE.ex hx
          replace ht := ht.below hb7
          replace hw := hw.trans (hb7.mono hw.size)
          have hfm := Lib.hid (format_any B7 m7 d7 c' w7 hs7 ht)
          rw [hf] at hfm
          clear hf hx hp hb7 hs7 ht
          go_wp2_with fail
          refine hfm.out.mono ?_; rintro e w8 ⟨rfl, hb8⟩
          replace hw := hw.trans (hb8.mono hw.size)
          clear hb8 hfm
          go_wp2_with fail
          go_ret
          exact Law.mk hw
        · rw [hq] at hp
          clear hq hv
          go_wp2_with fail
          refine hp.out.mono ?_
          rintro e w7 hx
          obtain ⟨B7, m7, d7, rfl, hs7, hb7⟩ := RetE.ex hx
          replace hw := hw.trans (hb7.mono hw.size)
          obtain rfl : m7 = 0 := hs7.len.symm
          clear hx hp hb7 hs7 ht
          go_wp2_with fail
          go_ret
          exact Law.mk hw
      | false =>
        have hfe : fmtS xs = [] := by unfold fmtS; rw [hval]; rfl
        rw [hfe] at hf1
        clear hfe
        replace hval := Lib.hid hval
        go_wp2_with fail
        refine hf1.out.mono ?_
        rintro e w2 ⟨rfl, hb2⟩
        replace hr := hr.below hb2; replace ht := ht.below hb2; replace hv := hv.below hb2
        replace hw := hw.trans (hb2.mono hw.size)
        clear hf1 hb2
        have hvb := Lib.hid (valid_b A n c xs w2 hr false hval.out)
        go_wp2_with fail
        refine hvb.out.mono ?_; rintro e w' ⟨rfl, rfl⟩
        clear hvb
        have hp := Lib.hid (parse_any b w2 (by omega) hv ht)
        rcases parQ_cases b.data.toList with ⟨c', hq, hf⟩ | hq
        · rw [hq] at hp
          clear hq hv
          go_wp2_with fail
          refine hp.out.mono ?_
          rintro e w7 hx
          obtain ⟨B7, m7, d7, rfl, hs7, hb7⟩ := RetE.ex hx
          replace ht := ht.below hb7
          replace hw := hw.trans (hb7.mono hw.size)
          have hfm := Lib.hid (format_any B7 m7 d7 c' w7 hs7 ht)
          rw [hf] at hfm
          clear hf hx hp hb7 hs7 ht
          go_wp2_with fail
          refine hfm.out.mono ?_; rintro e w8 ⟨rfl, hb8⟩
          replace hw := hw.trans (hb8.mono hw.size)
          clear hb8 hfm
          go_wp2_with fail
          go_ret
          exact Law.mk hw
        · rw [hq] at hp
          clear hq hv
          go_wp2_with fail
          refine hp.out.mono ?_
          rintro e w7 hx
          obtain ⟨B7, m7, d7, rfl, hs7, hb7⟩ := RetE.ex hx
          replace hw := hw.trans (hb7.mono hw.size)
          obtain rfl : m7 = 0 := hs7.len.symm
          clear hx hp hb7 hs7 ht
          go_wp2_with fail
          go_ret
          exact Law.mk hw
end Go.Proofs.YtfdchnepaaampaaDoor
