/- Law 32: closed lists of events, as the reference tells them. No condition. -/
import Derived.Test.YtgbfedgghjcdcaaGreatDoorTKA
import Derived.Test.YtgbfedgghjcdcaaGreatDoorTK
import Derived.Test.YtgbfedgghjcdcaaGreatDoorTW
import Derived.Test.YtgbfedgghjcdcaaGreatDoorTS
namespace Go.Proofs.YtgbfedgghjcdcaaGreatDoor
set_option linter.unusedSimpArgs false
set_option linter.unusedVariables false
set_option linter.unusedSectionVars false
open Go.RowKit
set_option maxRecDepth 100000
set_option maxHeartbeats 16000000

theorem dot_g : cfg.P.eqGuardType cfg.P.depth 101 = false := by kernel_rfl
theorem dot_t {a b : Ev} (h : nm a = nm b) : eqC cfg.P 20 101 [.int .i64 a.r, .int .i64 a.n] [.int .i64 b.r, .int .i64 b.n] = some true := by
  simp only [nm, Prod.mk.injEq] at h
  rw [dot_eq, h.1, h.2]; simp
theorem dot_f {a b : Ev} (h : nm a ≠ nm b) : eqC cfg.P 20 101 [.int .i64 a.r, .int .i64 a.n] [.int .i64 b.r, .int .i64 b.n] = some false := by
  rw [dot_eq]
  congr 1
  rw [← Bool.not_eq_true]
  intro hh
  simp only [Bool.and_eq_true, decide_eq_true_eq, and_true] at hh
  exact h (by simp [nm, hh.1, hh.2])
structure Cl2 (l : List Ev) (m q : Nat) : Prop where
  form : ∀ k e, k < q → l[k]? = some e → formB e = true
  alike : ∀ k e, k < q → l[k]? = some e → e.past.length = m
  names : ∀ k j e x, k < q → l[k]? = some e → l[j]? = some x → k ≠ j → nm x ≠ nm e
  good : ∀ k e, k < q → l[k]? = some e → ClosedR l e
theorem Cl2.all {l : List Ev} {m : Nat} (few : l.length ≤ 1024) (h : Cl2 l m l.length) : ClosedP l := by
  have get : ∀ e ∈ l, ∃ k, k < l.length ∧ l[k]? = some e := fun e he => by
    obtain ⟨k, hk⟩ := List.mem_iff_getElem?.1 he
    exact ⟨k, lt_of_get hk, hk⟩
  refine (closed_ref few (fun e he => ?_) (fun e he x hx => ?_) ?_).2 (fun e he => ?_)
  · obtain ⟨k, h1, h2⟩ := get e he
    exact h.form k e h1 h2
  · obtain ⟨k, h1, h2⟩ := get e he
    obtain ⟨j, h3, h4⟩ := get x hx
    rw [h.alike k e h1 h2, h.alike j x h3 h4]
  · rw [List.Nodup, List.pairwise_iff_getElem]
    intro i j hi hj hij
    rw [List.getElem_map, List.getElem_map]
    have hi' : i < l.length := by simpa using hi
    have hj' : j < l.length := by simpa using hj
    exact h.names j i _ _ hj' (List.getElem?_eq_getElem hj') (List.getElem?_eq_getElem hi') (by omega)
  · obtain ⟨k, h1, h2⟩ := get e he
    exact h.good k e h1 h2
end Go.Proofs.YtgbfedgghjcdcaaGreatDoor

namespace Go.Proofs.YtgbfedgghjcdcaaGreatDoor
set_option linter.unusedSimpArgs false
set_option linter.unusedVariables false
set_option linter.unusedSectionVars false
open Go.RowKit
set_option maxRecDepth 100000
set_option maxHeartbeats 16000000

end Go.Proofs.YtgbfedgghjcdcaaGreatDoor

namespace Go.Proofs.YtgbfedgghjcdcaaGreatDoor
set_option linter.unusedSimpArgs false
set_option linter.unusedVariables false
set_option linter.unusedSectionVars false
open Go.RowKit
set_option maxRecDepth 100000
set_option maxHeartbeats 16000000

theorem con_c (a b : Ev) (ha : a.past.length ≤ 140737488351232) (hb : b.past.length ≤ 140737488351232) : Cl cfg 18 [.t (evA a), .t (evA b)] [] (.t (.bool (conB a b))) [] := by
  have h1 := formed_c a ha
  have h2 := formed_c b hb
  have h3 := ebefore_c a b hb
  have h4 := ebefore_c b a ha
  have n1 := name_c a
  have n2 := name_c b
  refine Cl.of_body rfl Tryz.func18 rfl rfl rfl ?_
  cases hfa : formB a with
  | false =>
    rw [hfa] at h1
    have e : conB a b = false := by simp [conB, hfa]
    rw [e]
    repeat' (first
 | (with_reducible apply EvK.seq)
 | ((with_reducible apply EvK.text); (try case hm => exact rfl))
 | ((with_reducible apply EvK.drawn); (case hm => exact rfl))
 | (with_reducible apply EvK.ret)
 | (with_reducible apply EvO.nilT)
 | ((with_reducible apply EvO.gf); (case hW => exact rfl))
 | ((with_reducible apply EvO.u0); (case hx => first
 | ((with_reducible apply OpR.callF); (case hcal => exact rfl); (case hav => exact rfl); (case hx => exact rfl); (case hh => exact rfl); (case hm => exact rfl); (case hcl => exact h1); (case hr => exact rfl))
 | exact opq))
 | fail)
    exact ⟨.inr rfl, rfl⟩
  | true =>
    rw [hfa] at h1
    cases hfb : formB b with
    | false =>
      rw [hfb] at h2
      have e : conB a b = false := by simp [conB, hfb]
      rw [e]
      repeat' (first
 | (with_reducible apply EvK.seq)
 | ((with_reducible apply EvK.text); (try case hm => exact rfl))
 | ((with_reducible apply EvK.drawn); (case hm => exact rfl))
 | (with_reducible apply EvK.ret)
 | (with_reducible apply EvO.nilT)
 | ((with_reducible apply EvO.gf); (case hW => exact rfl))
 | ((with_reducible apply EvO.gt0); (case hW => exact rfl); (case hx => first
 | ((with_reducible apply OpR.callF); (case hcal => exact rfl); (case hav => exact rfl); (case hx => exact rfl); (case hh => exact rfl); (case hm => exact rfl); (case hcl => exact h2); (case hr => exact rfl))
 | exact opq))
 | ((with_reducible apply EvO.u0); (case hx => first
 | ((with_reducible apply OpR.callF); (case hcal => exact rfl); (case hav => exact rfl); (case hx => exact rfl); (case hh => exact rfl); (case hm => exact rfl); (case hcl => exact h1); (case hr => exact rfl))
 | exact opq))
 | fail)
      exact ⟨.inr rfl, rfl⟩
    | true =>
      rw [hfb] at h2
      by_cases hn : nm a = nm b
      ·
        have hte := dot_t hn
        have e : conB a b = false := by simp [conB, hn]
        rw [e]
        repeat' (first
 | (with_reducible apply EvK.seq)
 | ((with_reducible apply EvK.text); (try case hm => exact rfl))
 | ((with_reducible apply EvK.drawn); (case hm => exact rfl))
 | (with_reducible apply EvK.ret)
 | (with_reducible apply EvO.nilT)
 | ((with_reducible apply EvO.gf); (case hW => exact rfl))
 | ((with_reducible apply EvO.gt0); (case hW => exact rfl); (case hx => first
 | ((with_reducible apply OpR.nes); (case hx => exact rfl); (case hy => exact rfl); (case hg => exact dot_g); (case ht => exact rfl); (case hr => exact hte))
 | ((with_reducible apply OpR.callF); (case hcal => exact rfl); (case hav => exact rfl); (case hx => exact rfl); (case hh => exact rfl); (case hm => exact rfl); (case hcl => exact h2); (case hr => exact rfl))
 | ((with_reducible apply OpR.callF); (case hcal => exact rfl); (case hav => exact rfl); (case hx => exact rfl); (case hh => exact rfl); (case hm => exact rfl); (case hcl => exact n1); (case hr => exact rfl))
 | ((with_reducible apply OpR.callF); (case hcal => exact rfl); (case hav => exact rfl); (case hx => exact rfl); (case hh => exact rfl); (case hm => exact rfl); (case hcl => exact n2); (case hr => exact rfl))
 | exact opq))
 | ((with_reducible apply EvO.u0); (case hx => first
 | ((with_reducible apply OpR.callF); (case hcal => exact rfl); (case hav => exact rfl); (case hx => exact rfl); (case hh => exact rfl); (case hm => exact rfl); (case hcl => exact h1); (case hr => exact rfl))
 | exact opq))
 | fail)
        exact ⟨.inr rfl, rfl⟩
      ·
        have hte := dot_f hn
        cases hab : hasS b.past a.r a.n with
        | true =>
          rw [hab] at h3
          have e : conB a b = false := by simp [conB, befB, hfa, hfb, hab]
          rw [e]
          repeat' (first
 | (with_reducible apply EvK.seq)
 | ((with_reducible apply EvK.text); (try case hm => exact rfl))
 | ((with_reducible apply EvK.drawn); (case hm => exact rfl))
 | (with_reducible apply EvK.ret)
 | (with_reducible apply EvO.nilT)
 | ((with_reducible apply EvO.gf); (case hW => exact rfl))
 | ((with_reducible apply EvO.gt0); (case hW => exact rfl); (case hx => first
 | ((with_reducible apply OpR.nes); (case hx => exact rfl); (case hy => exact rfl); (case hg => exact dot_g); (case ht => exact rfl); (case hr => exact hte))
 | ((with_reducible apply OpR.callF); (case hcal => exact rfl); (case hav => exact rfl); (case hx => exact rfl); (case hh => exact rfl); (case hm => exact rfl); (case hcl => exact h2); (case hr => exact rfl))
 | ((with_reducible apply OpR.callF); (case hcal => exact rfl); (case hav => exact rfl); (case hx => exact rfl); (case hh => exact rfl); (case hm => exact rfl); (case hcl => exact n1); (case hr => exact rfl))
 | ((with_reducible apply OpR.callF); (case hcal => exact rfl); (case hav => exact rfl); (case hx => exact rfl); (case hh => exact rfl); (case hm => exact rfl); (case hcl => exact n2); (case hr => exact rfl))
 | ((with_reducible apply OpR.callF); (case hcal => exact rfl); (case hav => exact rfl); (case hx => exact rfl); (case hh => exact rfl); (case hm => exact rfl); (case hcl => exact h3); (case hr => exact rfl))
 | exact opq))
 | ((with_reducible apply EvO.u0); (case hx => first
 | ((with_reducible apply OpR.callF); (case hcal => exact rfl); (case hav => exact rfl); (case hx => exact rfl); (case hh => exact rfl); (case hm => exact rfl); (case hcl => exact h1); (case hr => exact rfl))
 | exact opq))
 | fail)
          exact ⟨.inr rfl, rfl⟩
        | false =>
          rw [hab] at h3
          cases hba : hasS a.past b.r b.n with
          | true =>
            rw [hba] at h4
            have e : conB a b = false := by simp [conB, befB, hfa, hfb, hba]
            rw [e]
            repeat' (first
 | (with_reducible apply EvK.seq)
 | ((with_reducible apply EvK.text); (try case hm => exact rfl))
 | ((with_reducible apply EvK.drawn); (case hm => exact rfl))
 | (with_reducible apply EvK.ret)
 | (with_reducible apply EvO.nilT)
 | ((with_reducible apply EvO.gt0); (case hW => exact rfl); (case hx => first
 | ((with_reducible apply OpR.nes); (case hx => exact rfl); (case hy => exact rfl); (case hg => exact dot_g); (case ht => exact rfl); (case hr => exact hte))
 | ((with_reducible apply OpR.callF); (case hcal => exact rfl); (case hav => exact rfl); (case hx => exact rfl); (case hh => exact rfl); (case hm => exact rfl); (case hcl => exact h2); (case hr => exact rfl))
 | ((with_reducible apply OpR.callF); (case hcal => exact rfl); (case hav => exact rfl); (case hx => exact rfl); (case hh => exact rfl); (case hm => exact rfl); (case hcl => exact n1); (case hr => exact rfl))
 | ((with_reducible apply OpR.callF); (case hcal => exact rfl); (case hav => exact rfl); (case hx => exact rfl); (case hh => exact rfl); (case hm => exact rfl); (case hcl => exact n2); (case hr => exact rfl))
 | ((with_reducible apply OpR.callF); (case hcal => exact rfl); (case hav => exact rfl); (case hx => exact rfl); (case hh => exact rfl); (case hm => exact rfl); (case hcl => exact h3); (case hr => exact rfl))
 | ((with_reducible apply OpR.callF); (case hcal => exact rfl); (case hav => exact rfl); (case hx => exact rfl); (case hh => exact rfl); (case hm => exact rfl); (case hcl => exact h4); (case hr => exact rfl))
 | exact opq))
 | ((with_reducible apply EvO.u0); (case hx => first
 | ((with_reducible apply OpR.callF); (case hcal => exact rfl); (case hav => exact rfl); (case hx => exact rfl); (case hh => exact rfl); (case hm => exact rfl); (case hcl => exact h1); (case hr => exact rfl))
 | exact opq))
 | fail)
            exact ⟨.inr rfl, rfl⟩
          | false =>
            rw [hba] at h4
            have e : conB a b = true := by simp [conB, befB, hfa, hfb, hab, hba, hn]
            rw [e]
            repeat' (first
 | (with_reducible apply EvK.seq)
 | ((with_reducible apply EvK.text); (try case hm => exact rfl))
 | ((with_reducible apply EvK.drawn); (case hm => exact rfl))
 | (with_reducible apply EvK.ret)
 | (with_reducible apply EvO.nilT)
 | ((with_reducible apply EvO.gt0); (case hW => exact rfl); (case hx => first
 | ((with_reducible apply OpR.nes); (case hx => exact rfl); (case hy => exact rfl); (case hg => exact dot_g); (case ht => exact rfl); (case hr => exact hte))
 | ((with_reducible apply OpR.callF); (case hcal => exact rfl); (case hav => exact rfl); (case hx => exact rfl); (case hh => exact rfl); (case hm => exact rfl); (case hcl => exact h2); (case hr => exact rfl))
 | ((with_reducible apply OpR.callF); (case hcal => exact rfl); (case hav => exact rfl); (case hx => exact rfl); (case hh => exact rfl); (case hm => exact rfl); (case hcl => exact n1); (case hr => exact rfl))
 | ((with_reducible apply OpR.callF); (case hcal => exact rfl); (case hav => exact rfl); (case hx => exact rfl); (case hh => exact rfl); (case hm => exact rfl); (case hcl => exact n2); (case hr => exact rfl))
 | ((with_reducible apply OpR.callF); (case hcal => exact rfl); (case hav => exact rfl); (case hx => exact rfl); (case hh => exact rfl); (case hm => exact rfl); (case hcl => exact h3); (case hr => exact rfl))
 | ((with_reducible apply OpR.callF); (case hcal => exact rfl); (case hav => exact rfl); (case hx => exact rfl); (case hh => exact rfl); (case hm => exact rfl); (case hcl => exact h4); (case hr => exact rfl))
 | exact opq))
 | ((with_reducible apply EvO.u0); (case hx => first
 | ((with_reducible apply OpR.callF); (case hcal => exact rfl); (case hav => exact rfl); (case hx => exact rfl); (case hh => exact rfl); (case hm => exact rfl); (case hcl => exact h1); (case hr => exact rfl))
 | exact opq))
 | fail)
            exact ⟨.inr rfl, rfl⟩
end Go.Proofs.YtgbfedgghjcdcaaGreatDoor
