/- Walk of the law ClockTexts: it answers true. Conditions: the arguments read as lists, the library's variables and its table of powers stand. -/
import Derived.Test.YtfdchnepaaampaaDoorLawB
import Derived.Test.YtfdchnepaaampaaDoorClkY
namespace Go.Proofs.YtfdchnepaaampaaDoor
set_option linter.unusedSimpArgs false
set_option linter.unusedVariables false
set_option linter.unusedSectionVars false
open Go.RowKit

set_option maxHeartbeats 1600000 in
set_option maxRecDepth 100000 in
theorem law_texts (A : Option Addr) (n c : Nat) (xs : List Int) (b : ByteArray) (w : World) (hr : RI w A n xs) (ht : Tab w) (hv : Vars w) :
    Calls Tryd.prog 9 #[.slice A n c, .string b] w (Law w) := by
  have hnl := hr.le
  have hw : Below w.heap.size w w := Below.refl _ _
  go_enter Tryd.func9, Tryd.ntmps9
  go_wp2_with fail
  refine (awake_any _ ht).mono ?_
  rintro e w1 ⟨rfl, hbK⟩
  replace hr := hr.below hbK; replace ht := ht.below hbK; replace hv := hv.below hbK
  replace hw := hw.trans hbK
  clear hbK
  by_cases h8 : 8 < n
  · go_wp2_with fail
    go_ret
    exact Law.mk hw
  · by_cases h40 : 40 < b.size
    · go_wp2_with fail
      go_ret
      exact Law.mk hw
    · have hp := Lib.hid (parse_any b w1 (by omega) hv ht)
      go_wp2_with fail
      refine hp.out.mono ?_
      rintro e w2 ⟨B, m, d, rfl, hs, hb2⟩
      replace hr := hr.below hb2; replace ht := ht.below hb2
      replace hw := hw.trans (hb2.mono hw.size)
      rw [parQ_eq] at hs ⊢
      clear hp hv
      have hp := Lib.hid (rparse_any b w2 (by omega))
      obtain ⟨q, hq⟩ : ∃ q, parP b.data.toList = q := ⟨_, rfl⟩
      rw [hq] at hp hs ⊢
      clear hq hb2
      go_wp2_with fail
      refine hp.out.mono ?_
      rintro e w3 ⟨B', m', d', rfl, hs', hb3⟩
      replace hr := hr.below hb3; replace ht := ht.below hb3; replace hs := hs.below hb3
      replace hw := hw.trans (hb3.mono hw.size)
      clear hp hb3
      have hf1 := Lib.hid (format_any A n c xs w3 hr ht)
      go_wp2_with fail
      refine hf1.out.mono ?_
      rintro e w4 ⟨rfl, hb4⟩
      replace hr := hr.below hb4; replace hs := hs.below hb4; replace hs' := hs'.below hb4
      replace hw := hw.trans (hb4.mono hw.size)
      clear hf1 hb4 ht
      have hf2 := Lib.hid (rformat_any A n c xs w4 hr)
      go_wp2_with fail
      refine hf2.out.mono ?_
      rintro e w' ⟨rfl, rfl⟩
      go_wp2_with fail
      refine (equal_b B B' m m' d d' q.1 q.1 _ hs hs' true (by simp)).mono ?_
      rintro e w' ⟨rfl, j, rfl⟩
      go_wp2_with fail
      go_ret
      exact Law.mk (below_drewN hw _)
end Go.Proofs.YtfdchnepaaampaaDoor
