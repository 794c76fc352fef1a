/- Law 32: closed lists of events, as the reference tells them. No condition. -/
import Derived.Test.YtgbfedgghjcdcaaGreatDoorKB
namespace Go.Proofs.YtgbfedgghjcdcaaGreatDoor
set_option linter.unusedSimpArgs false
set_option linter.unusedVariables false
set_option linter.unusedSectionVars false
open Go.RowKit
set_option maxRecDepth 100000
set_option maxHeartbeats 16000000

theorem dot_g : cfg.P.eqGuardType cfg.P.depth 101 = false := by kernel_rfl
theorem dot_t {a b : Ev} (h : nm a = nm b) : eqC cfg.P 20 101 [.int .i64 a.r, .int .i64 a.n] [.int .i64 b.r, .int .i64 b.n] = some true := by
  simp only [nm, Prod.mk.injEq] at h
  rw [dot_eq, h.1, h.2]; simp
theorem dot_f {a b : Ev} (h : nm a ≠ nm b) : eqC cfg.P 20 101 [.int .i64 a.r, .int .i64 a.n] [.int .i64 b.r, .int .i64 b.n] = some false := by
  rw [dot_eq]
  congr 1
  rw [← Bool.not_eq_true]
  intro hh
  simp only [Bool.and_eq_true, decide_eq_true_eq, and_true] at hh
  exact h (by simp [nm, hh.1, hh.2])
theorem count_snoc {α : Type} {p : α → Bool} {l : List α} {k : Nat} {x : α} (h : l[k]? = some x) : (l.take (k + 1)).countP p = (l.take k).countP p + if p x = true then 1 else 0 := by
  rw [take_succ' h, List.countP_append, List.countP_singleton]
/-- What the reference has told of the first events. -/
structure Cl2 (l : List Ev) (m q : Nat) : Prop where
  form : ∀ k e, k < q → l[k]? = some e → formB e = true
  alike : ∀ k e, k < q → l[k]? = some e → e.past.length = m
  names : ∀ k j e x, k < q → l[k]? = some e → l[j]? = some x → k ≠ j → nm x ≠ nm e
  good : ∀ k e, k < q → l[k]? = some e → ClosedR l e
theorem Cl2.all {l : List Ev} {m : Nat} (few : l.length ≤ 1024) (h : Cl2 l m l.length) : ClosedP l := by
  have get : ∀ e ∈ l, ∃ k, k < l.length ∧ l[k]? = some e := fun e he => by
    obtain ⟨k, hk⟩ := List.mem_iff_getElem?.1 he
    exact ⟨k, lt_of_get hk, hk⟩
  refine (closed_ref few (fun e he => ?_) (fun e he x hx => ?_) ?_).2 (fun e he => ?_)
  · obtain ⟨k, h1, h2⟩ := get e he
    exact h.form k e h1 h2
  · obtain ⟨k, h1, h2⟩ := get e he
    obtain ⟨j, h3, h4⟩ := get x hx
    rw [h.alike k e h1 h2, h.alike j x h3 h4]
  · rw [List.Nodup, List.pairwise_iff_getElem]
    intro i j hi hj hij
    rw [List.getElem_map, List.getElem_map]
    have hi' : i < l.length := by simpa using hi
    have hj' : j < l.length := by simpa using hj
    exact h.names j i _ _ hj' (List.getElem?_eq_getElem hj') (List.getElem?_eq_getElem hi') (by omega)
  · obtain ⟨k, h1, h2⟩ := get e he
    exact h.good k e h1 h2
end Go.Proofs.YtgbfedgghjcdcaaGreatDoor
