/- Law 52: SessionServes, its arguments opened. No condition. -/
import Derived.Test.YtjdhnoffoknlnaaGreatDoorYB
import Derived.Test.YtjdhnoffoknlnaaGreatDoorCKV
namespace Go.Proofs.YtjdhnoffoknlnaaGreatDoor
set_option linter.unusedSimpArgs false
set_option linter.unusedVariables false
set_option linter.unusedSectionVars false
open Go.RowKit
set_option maxRecDepth 100000
theorem shp_clks {m : Nat} {xs : List AV} (h : Shp Tryz.prog (m + 3) 44 xs) : ∃ l : List (List Int), xs = [clksA l] ∧ l.length ≤ 17592186044416 ∧ ∀ c ∈ l, c.length ≤ 17592186044416 := by
  rw [Shp] at h
  simp only [Tryz.underlying44] at h
  obtain ⟨es, rfl, hl, he⟩ := h
  obtain ⟨l, rfl, hb⟩ := list_of (f := fun c => [intsA c]) (R := fun c => c.length ≤ 17592186044416) fun c hc => by
    obtain ⟨n, rfl, hn⟩ := shp_ints (he c hc)
    exact ⟨n, rfl, hn⟩
  exact ⟨l, rfl, by simpa using hl, hb⟩
theorem arg_clks {m : Nat} {x : AV} (h : Arg Tryz.prog (m + 3) 44 x) : ∃ l : List (List Int), x = clksA l ∧ l.length ≤ 17592186044416 ∧ ∀ c ∈ l, c.length ≤ 17592186044416 := by
  obtain ⟨xs, h1, h2⟩ := h
  obtain ⟨l, rfl, h3⟩ := shp_clks h1
  simp only [Tryz.underlying44] at h2
  cases h2
  exact ⟨l, rfl, h3⟩
theorem law_serves_all (xs : List AV) (h : Args Tryz.prog 8 Tryz.f4.params.toList xs) : Cl cfg 4 (xs.map .t) [] (.t (.bool true)) [] := by
  rw [Tryz.params4] at h
  obtain ⟨x0, _, rfl, h0, x1, _, rfl, h1, rfl⟩ := h
  obtain ⟨c, rfl, hcl⟩ := arg_ints h0
  obtain ⟨l, rfl, hl, hc⟩ := arg_clks h1
  exact law_serves c l hcl hl hc
end Go.Proofs.YtjdhnoffoknlnaaGreatDoor
