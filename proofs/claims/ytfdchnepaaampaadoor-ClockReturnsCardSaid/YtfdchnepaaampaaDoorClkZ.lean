/- Walks: Zero of the clocks and of their reference computes the plain function of the text Spec. Conditions: the arguments read as lists. -/
import Derived.Test.YtfdchnepaaampaaDoorBase
import Derived.Test.YtfdchnepaaampaaDoorSpec
namespace Go.Proofs.YtfdchnepaaampaaDoor
set_option linter.unusedSimpArgs false
set_option linter.unusedVariables false
set_option linter.unusedSectionVars false
open Go.RowKit

set_option maxHeartbeats 400000 in
theorem zero_any (r : Int) (w : World) : Calls Tryd.prog 16 #[.int .i64 r] w (RetI (zeroL r) w) := by
  by_cases h : 1 ≤ r ∧ r ≤ 5
  · obtain ⟨n, rfl⟩ := Int.eq_ofNat_of_zero_le (show 0 ≤ r by omega)
    obtain ⟨h1, h2⟩ := h
    have hz : Hid (zeroL (n : Int) = List.replicate n 0) := by unfold Hid zeroL; rw [if_pos ⟨h1, h2⟩]; simp
    obtain ⟨i0, hi, hz0, hz1, hz2⟩ := info_parts int_info
    have hmk := fun W => run_make_rowN (P := Tryd.prog) 25 3 i0 (.int .i64 0) Tryd.underlying25 hi hz0 .i64 .i64 n n (Nat.le_refl _) (by rw [hz2]; omega) (by omega) W
    rw [hz1, Nat.mul_one] at hmk
    clear hi hz0 hz1 hz2
    go_enter Tryd.func16, Tryd.ntmps16
    go_wp2
    go_ret
    refine RetI.mk ?_ ((Below.refl _ _).alloc (Nat.le_refl _) _)
    rw [hz.out]
    refine RI.lit _ _ _ _ _ ?_ (by simp) (by omega)
    rw [List.map_replicate]
    simpa using toList_madeCells_one (.int .i64 0) n
  · have hz : Hid (zeroL r = []) := by unfold Hid zeroL; rw [if_neg h]
    by_cases h1 : r < 1
    all_goals
      go_enter Tryd.func16, Tryd.ntmps16
      go_wp2
      go_ret
      refine RetI.mk ?_ (Below.refl _ _)
      rw [hz.out]
      exact RI.nil _

set_option maxHeartbeats 400000 in
theorem rzero_any (r : Int) (w : World) : Calls Tryd.prog 17 #[.int .i64 r] w (RetI (zeroL r) w) := by
  by_cases h : 1 ≤ r ∧ r ≤ 5
  · obtain ⟨n, rfl⟩ := Int.eq_ofNat_of_zero_le (show 0 ≤ r by omega)
    obtain ⟨h1, h2⟩ := h
    have hz : Hid (zeroL (n : Int) = List.replicate n 0) := by unfold Hid zeroL; rw [if_pos ⟨h1, h2⟩]; simp
    obtain ⟨i0, hi, hz0, hz1, hz2⟩ := info_parts int_info
    have hmk := fun W => run_make_rowN (P := Tryd.prog) 25 3 i0 (.int .i64 0) Tryd.underlying25 hi hz0 .i64 .i64 n n (Nat.le_refl _) (by rw [hz2]; omega) (by omega) W
    rw [hz1, Nat.mul_one] at hmk
    clear hi hz0 hz1 hz2
    go_enter Tryd.func17, Tryd.ntmps17
    go_wp2
    go_ret
    refine RetI.mk ?_ ((Below.refl _ _).alloc (Nat.le_refl _) _)
    rw [hz.out]
    refine RI.lit _ _ _ _ _ ?_ (by simp) (by omega)
    rw [List.map_replicate]
    simpa using toList_madeCells_one (.int .i64 0) n
  · have hz : Hid (zeroL r = []) := by unfold Hid zeroL; rw [if_neg h]
    by_cases h1 : r < 1
    all_goals
      go_enter Tryd.func17, Tryd.ntmps17
      go_wp2
      go_ret
      refine RetI.mk ?_ (Below.refl _ _)
      rw [hz.out]
      exact RI.nil _
end Go.Proofs.YtfdchnepaaampaaDoor
