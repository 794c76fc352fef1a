/- The library's readers of numbers, as the clocks use them: at every string. Conditions: the library's variables hold what their types say. -/
import Derived.Test.YtfdchnepaaampaaDoorClkW
import Derived.Test.YtfdchnepaaampaaDoorShelf
namespace Go.Proofs.YtfdchnepaaampaaDoor
set_option linter.unusedSimpArgs false
set_option linter.unusedVariables false
set_option linter.unusedSectionVars false
open Go.RowKit

/-- The library's variables that the readers look at. -/
def Vars (w : World) : Prop := (∃ ev, w.cell? ⟨0, 0, none⟩ = some ev ∧ (ev = .nilIface ∨ ∃ te pe, ev = .iface te pe)) ∧ (∃ ev, w.cell? ⟨1, 0, none⟩ = some ev ∧ (ev = .nilIface ∨ ∃ te pe, ev = .iface te pe)) ∧ ∃ m, w.cell? ⟨2, 0, none⟩ = some (.int .i64 m)
theorem cell_below {w w' : World} {p : Addr} {v : Value} (h : w.cell? p = some v) (hb : Below w.heap.size w w') : w'.cell? p = some v := by
  have hlt : p.block < w.heap.size := by
    rcases Nat.lt_or_ge p.block w.heap.size with h1 | h1
    · exact h1
    · unfold World.cell? at h; rw [Array.getElem?_eq_none h1] at h; cases h
  rw [hb.cell hlt]; exact h
theorem Vars.below {w w' : World} (h : Vars w) (hb : Below w.heap.size w w') : Vars w' := by
  obtain ⟨⟨e1, h1, h1'⟩, ⟨e2, h2, h2'⟩, m, h3⟩ := h
  exact ⟨⟨e1, cell_below h1 hb, h1'⟩, ⟨e2, cell_below h2 hb, h2'⟩, m, cell_below h3 hb⟩

theorem atoi_good (s : ByteArray) (hs : s.size ≤ 1048576) (v : Int) (h : Lib.atoiAll s.data.toList = .ok v) (w : World) :
    Calls Tryd.prog 51 #[.string s] w fun e w' => e = .returned (.tuple #[.int .i64 v, .nilIface]) ∧ Below w.heap.size w w' :=
  (Tryd.strconv_Atoi_ok s (by omega) v h w).mono fun e w' ⟨he, hw⟩ => ⟨he, by
    rcases hw with rfl | ⟨t, rfl⟩
    · exact Below.refl _ _
    · exact Lib.bytesWorld_below _ _ _⟩
theorem atoi_bad (s : ByteArray) (hs : s.size ≤ 1048576) (h : ∀ v, Lib.atoiAll s.data.toList ≠ .ok v) (w : World) (hv : Vars w) :
    Calls Tryd.prog 51 #[.string s] w fun e w' => ∃ x te pe, e = .returned (.tuple #[.int .i64 x, .iface te pe]) ∧ Below w.heap.size w w' := by
  obtain ⟨⟨e1, h1, h1'⟩, ⟨e2, h2, h2'⟩, m, h3⟩ := hv
  cases hc : Lib.atoiAll s.data.toList with
  | ok v => exact absurd hc (h v)
  | range => exact (Go.Proofs.Any.strconv_Atoi_range Tryd.laysC172 s (by omega) hc e2 w h2 h2').mono fun e w' ⟨N, he, _, _, hb⟩ => ⟨_, _, _, he, hb⟩
  | _ => exact (Go.Proofs.Any.strconv_Atoi_syntax Tryd.laysC172 s (by omega) hc e1 w h1 h1').mono fun e w' ⟨N, he, _, _, hb⟩ => ⟨_, _, _, he, hb⟩
end Go.Proofs.YtfdchnepaaampaaDoor
