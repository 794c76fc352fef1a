/- The library's variables off the listed ones. Condition: the row's own listed variables stand. -/
import Derived.Test.YtfdchnepaaampaaDoorClaim
import Derived.Test.YtfdchnepaaampaaDoorClkY
import Derived.Stop.LaidErr
import Derived.ChangeBears2
import Derived.Lib.LaidU8
namespace Go.Proofs.YtfdchnepaaampaaDoor
set_option linter.unusedSimpArgs false
set_option linter.unusedVariables false
set_option linter.unusedSectionVars false
open Go.ChangeShapes Go.WideShapes Go.ChangeAt Go.RowKit

theorem star : "*" ++ "errors.errorString" = "*errors.errorString" := by decide
theorem row_err (u : TypeId) (h : Tryd.prog.typeName? 3 u = some "*errors.errorString") : u = 115 :=
  typeName_ptr_named (nm := "errors.errorString") (by rw [star]; kernel_rfl) (by kernel_rfl) (by decide) u (by rw [star]; exact h)
theorem tail_met {P : Program} {x : String × DataW Unit} {l : List (String × DataW Unit)} {W : World} (h : laidMet P (x :: l) W) : laidMet P l W := h.tail
theorem var_cell {W : World} {n : String} {g : Nat} {v : Value} (hg : Tryd.prog.globalNamed n = some g) (h : W.var? Tryd.prog n = some #[v]) : W.cell? ⟨g, 0, none⟩ = some v := by
  unfold World.var? at h
  rw [hg] at h
  simp only [Option.bind_some] at h
  unfold World.cell?
  cases hx : W.heap[g]? with
  | none => rw [hx] at h; cases h
  | some o =>
    rw [hx] at h
    cases o <;> simp_all
theorem vars_of {l : List (String × DataW Unit)} {W : World} (hl : l = Rows.clockTextsRow.laid) (h : laidMetH Tryd.prog l W) (hS : W.ShapedOpen Tryd.prog) : Vars W := by
  subst hl
  have h0 : laidMet Tryd.prog Rows.clockTextsRow.laid W := h
  have h4 := h0.tail.tail.tail.tail
  obtain ⟨a0, t0, hv0, _⟩ := laid_sentinel (g := 1) h4 (by kernel_rfl) (by kernel_rfl) Tryd.underlying66 row_err Tryd.underlying115 Tryd.underlying117 rfl rfl Tryd.underlying9 (by kernel_rfl) (by kernel_rfl)
  obtain ⟨a1, t1, hv1, _⟩ := laid_sentinel (g := 0) h4.tail (by kernel_rfl) (by kernel_rfl) Tryd.underlying66 row_err Tryd.underlying115 Tryd.underlying117 rfl rfl Tryd.underlying9 (by kernel_rfl) (by kernel_rfl)
  refine ⟨⟨_, var_cell (by kernel_rfl) hv1, .inr ⟨_, _, rfl⟩⟩, ⟨_, var_cell (by kernel_rfl) hv0, .inr ⟨_, _, rfl⟩⟩, Tryd.laysM146.s1_3 W hS⟩
/-- A start whose listed variables hold what the program's text lays. -/
noncomputable def laidWorld (os : Os) : World :=
  { World.doorLaid Tryd.prog 4000 os with heap := (World.doorLaid Tryd.prog 4000 os).heap.modify 4 fun
    | .cells _ t frozen => .cells (Lib.firstTab.map fun z => Value.int .u8 z).toArray t frozen
    | o => o }
end Go.Proofs.YtfdchnepaaampaaDoor
