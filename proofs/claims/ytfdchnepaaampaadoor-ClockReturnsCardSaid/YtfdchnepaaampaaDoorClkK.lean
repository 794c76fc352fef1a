/- Walks: Add of the clocks. Conditions: the arguments read as lists. -/
import Derived.Test.YtfdchnepaaampaaDoorClkJ
import Derived.Test.YtfdchnepaaampaaDoorBase2
import Derived.Test.YtfdchnepaaampaaDoorSpec3
namespace Go.Proofs.YtfdchnepaaampaaDoor
set_option linter.unusedSimpArgs false
set_option linter.unusedVariables false
set_option linter.unusedSectionVars false
open Go.RowKit

/-- The call returns a list of ints and an error's number. -/
def RetE (p : List Int × Int) (w : World) (e : Ending) (w' : World) : Prop :=
  ∃ A n c, e = .returned (.tuple #[.slice A n c, .int .i64 p.2]) ∧ RI w' A n p.1 ∧ Below w.heap.size w w'
theorem RetE.mk {p : List Int × Int} {w w' : World} {A : Option Addr} {n c : Nat} {xs : List Int} {z : Int} (hp : p = (xs, z)) (h : RI w' A n xs) (hb : Below w.heap.size w w') :
    RetE p w (.returned (.tuple #[.slice A n c, .int .i64 z])) w' := by subst hp; exact ⟨A, n, c, rfl, h, hb⟩

set_option maxHeartbeats 3200000 in
set_option maxRecDepth 100000 in
theorem add_any (A B : Option Addr) (m p c d : Nat) (xs : List Int) (l : List Sp) (w : World) (hr : RI w A m xs) (hs : RS w B p l) :
    Calls Tryd.prog 24 #[.slice A m c, .slice B p d] w (RetE (addS xs l) w) := by
  have hm := hr.le
  have hp := hs.le
  have hl := Lib.hid hr.len
  have hl' := Lib.hid hs.len
  cases hv : validB xs with
  | false =>
    have h0 : Hid (addS xs l = ([], 1)) := by show _ = _; simp [addS, hv]
    replace hv := Lib.hid hv
    go_enter Tryd.func24, Tryd.ntmps24
    go_wp2_with (go_at_call 13; refine (valid_b _ _ _ _ _ hr _ hv.out).mono ?_; rintro e w' ⟨rfl, rfl⟩)
    go_ret2
    exact RetE.mk h0.out (RI.nil _) (Below.refl _ _)
  | true =>
    have h5 : 1 ≤ m ∧ m ≤ 5 := by have := valid_len hv; rw [hr.len] at this; exact this
    have hbad : Hid (addL m xs l = none → addS xs l = ([], 2)) := by show _ → _; intro h; simp [addS, hv, hl.out, h]
    have hgood : Hid (∀ acc, addL m xs l = some acc → addS xs l = (acc, 0)) := by show ∀ _, _; intro acc h; simp [addS, hv, hl.out, h]
    have hok : Hid (xs.all ok1 = true) := by show _ = _; simp only [validB, Bool.and_eq_true] at hv; exact hv.1.1
    replace hv := Lib.hid hv
    go_enter Tryd.func24, Tryd.ntmps24
    go_wp2_with fail
    refine (valid_b _ _ _ _ _ hr _ hv.out).mono ?_; rintro e w' ⟨rfl, rfl⟩
    go_wp2_with fail
    refine (clone_own _ _ _ _ _ hr (by omega) (by omega)).mono ?_; rintro e w1 ⟨g, cap, rfl, hO, hb1⟩
    go_wp2_with fail
    go_loopw [16] (fun i wr => ∃ (k : Nat) (acc : List Int), k ≤ p ∧ i = .int .i64 k ∧ addL m xs (l.take k) = some acc ∧ acc.all ok1 = true ∧ OI wr w.heap.size g cap m acc ∧ Below w.heap.size w wr) (fun i _ => p - (intOf i).toNat)
    case atStart => exact ⟨0, xs, Nat.zero_le _, rfl, rfl, hok.out, hO, hb1⟩
    case round =>
      obtain ⟨k, acc, hk, rfl, hadd, hacc, hOk, hbk⟩ := hrel
      clear hO hb1
      replace hadd := Lib.hid hadd; replace hacc := Lib.hid hacc
      by_cases hlt : k < p
      · obtain ⟨b, o, s, rfl, hbw, hx, c1, c2, c3⟩ := (hs.below hbk).at_ hlt
        obtain ⟨sr, sf, st⟩ := s
        simp only at c1 c2 c3
        have hgl := hOk.lt.1
        have hgl2 := hOk.lt.2
        have hbad2 : Hid (badSp m acc ⟨sr, sf, st⟩ = true → addS xs l = ([], 2)) := fun h => hbad.out (addL_bad m l xs acc k _ hadd.out hx h)
        have hgood2 : Hid (badSp m acc ⟨sr, sf, st⟩ = false → addL m xs (l.take (k + 1)) = some (addStep acc ⟨sr, sf, st⟩)) := fun h => addL_good m l xs acc k _ hadd.out hx h
        replace hx := Lib.hid hx
        have hbe : Hid (∀ n, Below w.heap.size w ((wr.alloc (.cells #[.int .i64 sr, .int .i64 sf, .int .i64 st] 43)).drewN n)) := fun n => below_drewN (hbk.alloc hbk.size _) n
        by_cases h1 : sr < 0
        · have hz := Lib.hid (hbad2.out (by simp [badSp, h1]))
          replace hOk := Lib.hid hOk; replace hbk := Lib.hid hbk
          go_wp2_with fail
          go_quiet (fail)
          go_wp2_with fail
          go_ret2
          exact RetE.mk hz.out (RI.nil _) (hbe.out _)
        · obtain ⟨r, rfl⟩ := Int.eq_ofNat_of_zero_le (show 0 ≤ sr by omega)
          have e1 : decide ((r : Int) < 0) = false := by simp <;> omega
          by_cases h2 : m ≤ r
          · have hz := Lib.hid (hbad2.out (by simp [badSp] <;> omega))
            have h2' : (m : Int) ≤ (r : Int) := by omega
            replace hOk := Lib.hid hOk; replace hbk := Lib.hid hbk
            go_wp2_with fail
            go_quiet (fail)
            go_wp2_with fail
            go_ret2
            exact RetE.mk hz.out (RI.nil _) (hbe.out _)
          · have hrm : r < m := by omega
            have e2 : decide ((m : Int) ≤ (r : Int)) = false := by simp <;> omega
            have hri : (r : Int) < (m : Int) := by omega
            obtain ⟨a, ha, hca⟩ := hOk.cell hrm
            have ⟨ha0, ha1⟩ := okall_at hacc.out ha
            have hg := Lib.hid (getD_get ha)
            by_cases h3 : sf < 1
            · have hz := Lib.hid (hbad2.out (by simp [badSp] <;> omega))
              replace hOk := Lib.hid hOk; replace hbk := Lib.hid hbk
              go_wp2_with fail
              go_quiet (fail)
              go_wp2_with fail
              go_ret2
              exact RetE.mk hz.out (RI.nil _) (hbe.out _)
            · have e3 : decide (sf < 1) = false := by simp <;> omega
              by_cases h4 : st < sf
              · have hz := Lib.hid (hbad2.out (by simp [badSp] <;> omega))
                replace hOk := Lib.hid hOk; replace hbk := Lib.hid hbk
                go_wp2_with fail
                go_quiet (fail)
                go_wp2_with fail
                go_ret2
                exact RetE.mk hz.out (RI.nil _) (hbe.out _)
              · have e4 : decide (st < sf) = false := by simp <;> omega
                by_cases h5' : 1024 < st
                · have hz := Lib.hid (hbad2.out (by simp [badSp] <;> omega))
                  replace hOk := Lib.hid hOk; replace hbk := Lib.hid hbk
                  go_wp2_with fail
                  go_quiet (fail)
                  go_wp2_with fail
                  go_ret2
                  exact RetE.mk hz.out (RI.nil _) (hbe.out _)
                · have e5 : decide (1024 < st) = false := by simp <;> omega
                  have ewr : IntKind.i64.wrap (a + 1) = a + 1 := IntWalk.i64_in _ (by omega)
                  have hca' : ∀ n, ((wr.alloc (.cells #[.int .i64 r, .int .i64 sf, .int .i64 st] 43)).drewN n).cell? ⟨g, r, none⟩ = some (.int .i64 a) := fun n => cell_alloc hgl2 hca _
                  by_cases h6 : a + 1 < sf
                  · have hz := Lib.hid (hbad2.out (by simp only [badSp, Int.toNat_natCast, hg.out]; simp; omega))
                    replace hOk := Lib.hid hOk; replace hbk := Lib.hid hbk
                    go_wp2_with fail
                    go_quiet (fail)
                    go_wp2_with fail
                    go_ret2
                    exact RetE.mk hz.out (RI.nil _) (hbe.out _)
                  · have hz : Hid (addL m xs (l.take (k + 1)) = some (acc.set r (max a st))) := by
                      have h := hgood2.out (by simp only [badSp, Int.toNat_natCast, hg.out]; simp; omega)
                      rw [addStep] at h
                      simp only [Int.toNat_natCast, hg.out] at h
                      exact h
                    have hall := Lib.hid (okall_set hacc.out r (n := max a st) (by simp [ok1]; omega))
                    have hfr := hOk.frozen r
                    have hO2 := Lib.hid ((hOk.below ((Below.refl _ _).alloc (Nat.le_refl _) (.cells #[.int .i64 r, .int .i64 sf, .int .i64 st] 43))))
                    clear hbad2 hgood2 hbad hgood
                    replace hOk := Lib.hid hOk
                    replace hbk := Lib.hid hbk
                    go_wp2_with fail
                    go_quiet (fail)
                    go_wp2_with fail
                    go_region
                    go_wp2_with fail
                    go_roundw
                    case rel => exact ⟨k + 1, acc.set r (max a st), by omega, by go_num, hz.out, hall.out, (hO2.out.drewN (nq + 1)).set r _, (hbe.out (nq + 1)).setCell (p := ⟨g, r, none⟩) hgl _⟩
                    case measure => simp [intOf]; omega
      · have hke : Hid (l.take k = l) := by show _ = _; exact List.take_of_length_le (by rw [hl'.out]; omega)
        rw [hke.out] at hadd
        have hz := Lib.hid (hgood.out _ hadd.out)
        clear hr hs
        go_wp2
        go_ret2
        exact RetE.mk hz.out hOk.ri hbk
set_option maxHeartbeats 3200000 in
set_option maxRecDepth 100000 in
theorem radd_any (A B : Option Addr) (m p c d : Nat) (xs : List Int) (l : List Sp) (w : World) (hr : RI w A m xs) (hs : RS w B p l) :
    Calls Tryd.prog 25 #[.slice A m c, .slice B p d] w (RetE (addS xs l) w) := by
  have hm := hr.le
  have hp := hs.le
  have hl := Lib.hid hr.len
  have hl' := Lib.hid hs.len
  cases hv : validB xs with
  | false =>
    have h0 : Hid (addS xs l = ([], 1)) := by show _ = _; simp [addS, hv]
    replace hv := Lib.hid hv
    go_enter Tryd.func25, Tryd.ntmps25
    go_wp2_with (go_at_call 14; refine (rvalid_b _ _ _ _ _ hr _ hv.out).mono ?_; rintro e w' ⟨rfl, rfl⟩)
    go_ret2
    exact RetE.mk h0.out (RI.nil _) (Below.refl _ _)
  | true =>
    have h5 : 1 ≤ m ∧ m ≤ 5 := by have := valid_len hv; rw [hr.len] at this; exact this
    have hbad : Hid (addL m xs l = none → addS xs l = ([], 2)) := by show _ → _; intro h; simp [addS, hv, hl.out, h]
    have hgood : Hid (∀ acc, addL m xs l = some acc → addS xs l = (acc, 0)) := by show ∀ _, _; intro acc h; simp [addS, hv, hl.out, h]
    have hok : Hid (xs.all ok1 = true) := by show _ = _; simp only [validB, Bool.and_eq_true] at hv; exact hv.1.1
    replace hv := Lib.hid hv
    go_enter Tryd.func25, Tryd.ntmps25
    go_wp2_with fail
    refine (rvalid_b _ _ _ _ _ hr _ hv.out).mono ?_; rintro e w' ⟨rfl, rfl⟩
    go_wp2_with (first
      | (at_builtin
         refine wpList_copy_ints w rfl (.tmp 12) (.tmp 13) rfl _ rfl rfl _ m _ _ rfl hr (by omega) ?_
         intro g cap w1 hO hb1))
    go_loopw [7] (fun i wr => ∃ (k : Nat) (acc : List Int), k ≤ p ∧ i = .int .i64 k ∧ addL m xs (l.take k) = some acc ∧ acc.all ok1 = true ∧ OI wr w.heap.size g cap m acc ∧ Below w.heap.size w wr) (fun i _ => p - (intOf i).toNat)
    case atStart => exact ⟨0, xs, Nat.zero_le _, rfl, rfl, hok.out, hO, hb1⟩
    case round =>
      obtain ⟨k, acc, hk, rfl, hadd, hacc, hOk, hbk⟩ := hrel
      clear hO hb1
      replace hadd := Lib.hid hadd; replace hacc := Lib.hid hacc
      by_cases hlt : k < p
      · obtain ⟨b, o, s, rfl, hbw, hx, c1, c2, c3⟩ := (hs.below hbk).at_ hlt
        obtain ⟨sr, sf, st⟩ := s
        simp only at c1 c2 c3
        have hgl := hOk.lt.1
        have hgl2 := hOk.lt.2
        have hbad2 : Hid (badSp m acc ⟨sr, sf, st⟩ = true → addS xs l = ([], 2)) := fun h => hbad.out (addL_bad m l xs acc k _ hadd.out hx h)
        have hgood2 : Hid (badSp m acc ⟨sr, sf, st⟩ = false → addL m xs (l.take (k + 1)) = some (addStep acc ⟨sr, sf, st⟩)) := fun h => addL_good m l xs acc k _ hadd.out hx h
        replace hx := Lib.hid hx
        have hbe : Hid (∀ n, Below w.heap.size w ((wr.alloc (.cells #[.int .i64 sr, .int .i64 sf, .int .i64 st] 43)).drewN n)) := fun n => below_drewN (hbk.alloc hbk.size _) n
        by_cases h1 : sr < 0
        · have hz := Lib.hid (hbad2.out (by simp [badSp, h1]))
          replace hOk := Lib.hid hOk; replace hbk := Lib.hid hbk
          go_wp2_with fail
          go_quiet (fail)
          go_wp2_with fail
          go_ret2
          exact RetE.mk hz.out (RI.nil _) (hbe.out _)
        · obtain ⟨r, rfl⟩ := Int.eq_ofNat_of_zero_le (show 0 ≤ sr by omega)
          have e1 : decide ((r : Int) < 0) = false := by simp <;> omega
          by_cases h2 : m ≤ r
          · have hz := Lib.hid (hbad2.out (by simp [badSp] <;> omega))
            have h2' : (m : Int) ≤ (r : Int) := by omega
            replace hOk := Lib.hid hOk; replace hbk := Lib.hid hbk
            go_wp2_with fail
            go_quiet (fail)
            go_wp2_with fail
            go_ret2
            exact RetE.mk hz.out (RI.nil _) (hbe.out _)
          · have hrm : r < m := by omega
            have e2 : decide ((m : Int) ≤ (r : Int)) = false := by simp <;> omega
            have hri : (r : Int) < (m : Int) := by omega
            obtain ⟨a, ha, hca⟩ := hOk.cell hrm
            have ⟨ha0, ha1⟩ := okall_at hacc.out ha
            have hg := Lib.hid (getD_get ha)
            have hsame := Lib.hid (set_same ha)
            by_cases h3 : sf < 1
            · have hz := Lib.hid (hbad2.out (by simp [badSp] <;> omega))
              replace hOk := Lib.hid hOk; replace hbk := Lib.hid hbk
              go_wp2_with fail
              go_quiet (fail)
              go_wp2_with fail
              go_ret2
              exact RetE.mk hz.out (RI.nil _) (hbe.out _)
            · have e3 : decide (sf < 1) = false := by simp <;> omega
              by_cases h4 : st < sf
              · have hz := Lib.hid (hbad2.out (by simp [badSp] <;> omega))
                replace hOk := Lib.hid hOk; replace hbk := Lib.hid hbk
                go_wp2_with fail
                go_quiet (fail)
                go_wp2_with fail
                go_ret2
                exact RetE.mk hz.out (RI.nil _) (hbe.out _)
              · have e4 : decide (st < sf) = false := by simp <;> omega
                by_cases h5' : 1024 < st
                · have hz := Lib.hid (hbad2.out (by simp [badSp] <;> omega))
                  replace hOk := Lib.hid hOk; replace hbk := Lib.hid hbk
                  go_wp2_with fail
                  go_quiet (fail)
                  go_wp2_with fail
                  go_ret2
                  exact RetE.mk hz.out (RI.nil _) (hbe.out _)
                · have e5 : decide (1024 < st) = false := by simp <;> omega
                  have ewr : IntKind.i64.wrap (a + 1) = a + 1 := IntWalk.i64_in _ (by omega)
                  have hca' : ∀ n, ((wr.alloc (.cells #[.int .i64 r, .int .i64 sf, .int .i64 st] 43)).drewN n).cell? ⟨g, r, none⟩ = some (.int .i64 a) := fun n => cell_alloc hgl2 hca _
                  by_cases h6 : a + 1 < sf
                  · have hz := Lib.hid (hbad2.out (by simp only [badSp, Int.toNat_natCast, hg.out]; simp; omega))
                    replace hOk := Lib.hid hOk; replace hbk := Lib.hid hbk
                    go_wp2_with fail
                    go_quiet (fail)
                    go_wp2_with fail
                    go_ret2
                    exact RetE.mk hz.out (RI.nil _) (hbe.out _)
                  · have hz : Hid (addL m xs (l.take (k + 1)) = some (acc.set r (max a st))) := by
                      have h := hgood2.out (by simp only [badSp, Int.toNat_natCast, hg.out]; simp; omega)
                      rw [addStep] at h
                      simp only [Int.toNat_natCast, hg.out] at h
                      exact h
                    have hall := Lib.hid (okall_set hacc.out r (n := max a st) (by simp [ok1]; omega))
                    have hfr := hOk.frozen r
                    have hO2 := Lib.hid ((hOk.below ((Below.refl _ _).alloc (Nat.le_refl _) (.cells #[.int .i64 r, .int .i64 sf, .int .i64 st] 43))))
                    clear hbad2 hgood2 hbad hgood
                    replace hOk := Lib.hid hOk
                    replace hbk := Lib.hid hbk
                    go_wp2_with fail
                    go_quiet (fail)
                    go_wp2_with fail
                    go_quiet (fail)
                    go_wp2_with fail
                    · have hmx : max a st = st := by omega
                      rw [hmx] at hz hall
                      go_roundw
                      case rel => exact ⟨k + 1, acc.set r st, by omega, by go_num, hz.out, hall.out, (hO2.out.drewN _).set r _, (hbe.out _).setCell (p := ⟨g, r, none⟩) hgl _⟩
                      case measure => simp [intOf]; omega
                    · have hmx : max a st = a := by omega
                      rw [hmx, hsame.out] at hz hall
                      go_roundw
                      case rel => exact ⟨k + 1, acc, by omega, by go_num, hz.out, hall.out, hO2.out.drewN _, hbe.out _⟩
                      case measure => simp [intOf]; omega
      · have hke : Hid (l.take k = l) := by show _ = _; exact List.take_of_length_le (by rw [hl'.out]; omega)
        rw [hke.out] at hadd
        have hz := Lib.hid (hgood.out _ hadd.out)
        clear hr hs
        go_wp2
        go_ret2
        exact RetE.mk hz.out hOk.ri hbk
end Go.Proofs.YtfdchnepaaampaaDoor
