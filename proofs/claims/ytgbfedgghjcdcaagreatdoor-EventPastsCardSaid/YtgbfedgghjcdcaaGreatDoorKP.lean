/- Law 32: EventPasts, its arguments opened. No condition. -/
import Derived.Test.YtgbfedgghjcdcaaGreatDoorKO
import Derived.Test.YtgbfedgghjcdcaaGreatDoorEF0
namespace Go.Proofs.YtgbfedgghjcdcaaGreatDoor
set_option linter.unusedSimpArgs false
set_option linter.unusedVariables false
set_option linter.unusedSectionVars false
open Go.RowKit
set_option maxRecDepth 100000
theorem shp_evs {m : Nat} {xs : List AV} (h : Shp Tryz.prog (m + 5) 39 xs) : ∃ l : List Ev, xs = [.arr (evsE l)] ∧ l.length ≤ 17592186044416 ∧ ∀ e ∈ l, e.past.length ≤ 17592186044416 := by
  rw [Shp] at h
  simp only [Tryz.underlying39] at h
  obtain ⟨es, rfl, hl, he⟩ := h
  obtain ⟨l, rfl, hb⟩ := list_of (f := evCs) (R := fun e => e.past.length ≤ 17592186044416) fun c hc => shp_event (he c hc)
  exact ⟨l, rfl, by simpa using hl, hb⟩
theorem arg_evs {m : Nat} {x : AV} (h : Arg Tryz.prog (m + 5) 39 x) : ∃ l : List Ev, x = .arr (evsE l) ∧ l.length ≤ 17592186044416 ∧ ∀ e ∈ l, e.past.length ≤ 17592186044416 := by
  obtain ⟨xs, h1, h2⟩ := h
  obtain ⟨l, rfl, h3, h4⟩ := shp_evs h1
  simp only [Tryz.underlying39] at h2
  cases h2
  exact ⟨l, rfl, h3, h4⟩
theorem law_pasts_all (xs : List AV) (h : Args Tryz.prog 8 Tryz.f9.params.toList xs) : Cl cfg 9 (xs.map .t) [] (.t (.bool true)) [] := by
  rw [Tryz.params9] at h
  obtain ⟨x0, _, rfl, h0, x1, _, rfl, h1, rfl⟩ := h
  obtain ⟨l, rfl, hl, hp⟩ := arg_evs h0
  obtain ⟨c, rfl, hc⟩ := arg_ints h1
  exact law_pasts l c hl hp hc
end Go.Proofs.YtgbfedgghjcdcaaGreatDoor
