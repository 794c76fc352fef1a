/- A law for the walk: 'append([]int{}, xs...)' is a copy in a new row. No condition. -/
import Derived.Test.YtfdchnepaaampaaDoorBase
namespace Go.Proofs.YtfdchnepaaampaaDoor
set_option linter.unusedSimpArgs false
set_option linter.unusedVariables false
set_option linter.unusedSectionVars false
open Go.RowKit

theorem wpList_copy_ints (W0 : World) {ops : Array Oper} {rest : List Oper} {o : Oper} {a : Act} {Q : Exit → Act → World → Prop} (hgd : o.guard = none) (s x : Operand)
    (ho : o.op = .call { callee := .builtin .append, args := #[s, x], argTypes := #[25, 25] })
    (g0 : Nat) (hg0 : W0.heap.size = g0) (hs : a.eval s = .slice (some ⟨g0, 0, none⟩) 0 0)
    (A : Option Addr) (m c : Nat) (xs : List Int) (hx : a.eval x = .slice A m c) (hr : RI W0 A m xs) (hm : m ≤ 17592186044416)
    (h : ∀ (g cap : Nat) (W' : World), OI W' g0 g cap m xs → Below g0 W0 W' → wpList Tryd.prog ops Q rest (a.put o.dst (.slice (some ⟨g, 0, none⟩) m cap)) W') :
    wpList Tryd.prog ops Q (o :: rest) a (W0.alloc (.cells #[] 3)) := by
  subst hg0
  obtain ⟨i0, hi, hz0, hz1, hz2⟩ := info_parts int_info
  have hemp := W0.ownsRow_lit (base := W0.heap.size) (e := 3) (size := 1) #[] 0 (Nat.le_refl _) (by simp [maxLen]) rfl
  have hr' := hr.alloc (.cells #[] 3)
  refine wpList_append_any _ hgd s x 25 ho W0.heap.size 3 i0 (.int .i64 0) 1 8 Tryd.underlying25 hi hz0 hz1 hz2 rfl (by omega) _ 0 [] hs hemp A m c (xs.map (.int .i64)) hx (by rw [List.length_map, hr.len]; omega) hr'.2.2 (ints_one _) (by unfold maxLen; omega) (by omega) (by simp) ?_
  intro v1 w1 hown1 hg1 hat1
  obtain ⟨g, cap, hv1, _⟩ := own_form hown1 (fun e => by have := (hat1.2.1 e).1; cases this)
  subst hv1
  rw [Nat.zero_add] at hown1 ⊢
  exact h g cap w1 ⟨hr.len, hr.le, hown1⟩ (((Below.refl _ _).alloc (Nat.le_refl _) _).grown hg1 (by simp) (by intro k hk; cases hk; simp))
end Go.Proofs.YtfdchnepaaampaaDoor
