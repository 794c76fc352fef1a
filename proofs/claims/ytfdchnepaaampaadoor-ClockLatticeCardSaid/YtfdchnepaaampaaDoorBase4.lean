/- A region that draws its order, whose operations only read and whose calls may make memory: one walk, in the class of all worlds that keep old memory. No condition. -/
import Derived.Test.YtfdchnepaaampaaDoorBase
namespace Go.Proofs.YtfdchnepaaampaaDoor
set_option linter.unusedSimpArgs false
set_option linter.unusedVariables false
set_option linter.unusedSectionVars false
open Go.RowKit

theorem cls (W : World) : ∃ (Z : Type) (g : Z → World) (z0 : Z), (∀ z, Below W.heap.size W (g z)) ∧ (∀ w', Below W.heap.size W w' → ∃ z, w' = g z) ∧ W.drew = g z0 :=
  ⟨{ w' // Below W.heap.size W w' }, Subtype.val, ⟨W.drew, (Below.refl _ _).drew⟩, fun z => z.2, fun w' h => ⟨⟨w', h⟩, rfl⟩, rfl⟩
theorem wp_region_cls {P : Program} {id : Nat} {Q : Exit → Act → World → Prop} {a : Act} {w : World} {l : List Oper} {Z : Type} (g : Z → World) (z0 : Z) (h0 : w.drew = g z0) (hm : P.follows .mixedOrders = true) (hB : Region.lexB .any l.toArray = true)
    (h : wpQuiet P l.toArray (fun w' => ∃ z, w' = g z) (fun a' => ∀ w', (∃ z, w' = g z) → Q .normal a' w') l a) : (Code.region id l.toArray true).wp P Q a w :=
  wp_region_quiet (C := fun w' => ∃ z, w' = g z) hm hB ⟨z0, h0⟩ (by simpa using h)
/-- A call inside such a region: its contract in that very world. -/
theorem cls_call {P : Program} {f : FuncId} {args : Array Value} {v : Value} {W : World} {Z : Type} {g : Z → World} {z : Z} (hg : ∀ z, Below W.heap.size W (g z)) (hz : ∀ w', Below W.heap.size W w' → ∃ z, w' = g z)
    (h : Calls P f args (g z) fun e w'' => e = .returned v ∧ Below (g z).heap.size (g z) w'') : Calls P f args (g z) fun e w'' => e = .returned v ∧ ∃ z', w'' = g z' :=
  h.mono fun _ _ ⟨he, hb⟩ => ⟨he, hz _ ((hg z).trans (hb.mono (hg z).size))⟩
end Go.Proofs.YtfdchnepaaampaaDoor
