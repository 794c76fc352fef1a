/- Law 52: events and acts as trees; searching in slices. No condition. -/
import Derived.Test.YtgbfedgghjcdcaaGreatDoorWA
import Derived.Test.YtgbfedgghjcdcaaGreatDoorSpecE
namespace Go.Proofs.YtgbfedgghjcdcaaGreatDoor
set_option linter.unusedSimpArgs false
set_option linter.unusedVariables false
set_option linter.unusedSectionVars false
open Go.RowKit
set_option maxRecDepth 100000

def evCs (e : Ev) : List AV := [.int .i64 e.r, .int .i64 e.n, .int .i64 e.t, intsA e.past, .int .i64 e.k, .int .i64 e.a, .int .i64 e.gk, .int .i64 e.gi, .int .i64 e.ge, .int .i64 e.ga, .int .i64 e.to, .int .i64 e.pl, .int .i64 e.se]
def evA (e : Ev) : AV := .agg (evCs e)
theorem drop_at {α : Type} {xs : List α} {k : Nat} {x : α} (h : xs[k]? = some x) : xs.drop k = x :: xs.drop (k + 1) := by
  obtain ⟨h1, rfl⟩ := List.getElem?_eq_some_iff.1 h
  exact List.drop_eq_getElem_cons h1
/-! events -/
theorem equalint_c {xs ys : List Int} (hl : xs.length ≤ 140737488351232) (hm : ys.length ≤ 140737488351232) : Cl cfg 36 [.t (intsA xs), .t (intsA ys)] [] (.t (.bool (xs == ys))) [] := by
  refine Cl.of_body rfl Tryz.func36 rfl rfl rfl ?_
  by_cases hlen : xs.length = ys.length
  ·
    repeat' (first
       | (with_reducible apply EvK.seq)
       | (with_reducible apply EvK.block)
       | ((with_reducible apply EvK.text); (try case hm => exact rfl))
       | (with_reducible apply EvK.skip)
       | (with_reducible apply thenK_n)
       | ((with_reducible apply EvK.cond_f); (case hc => exact rfl))
       | ((with_reducible apply EvO.spn_f); (case hp => first | assumption | omega))
       | (with_reducible apply EvO.nilT)
       | ((with_reducible apply EvO.u0); (case hx => first
          | ((with_reducible apply OpR.mv); (conv => lhs; whnf); try exact rfl)
          | ((with_reducible apply OpR.asg); (conv => lhs; whnf); try exact rfl)
          | ((with_reducible apply OpR.len); (case ha => exact rfl); (case hy => exact rfl); (case ht => exact rfl); (case hs => exact rfl); (case hn => first | exact List.length_map _ | exact rfl))
          | exact OpR.r fun _ => rfl))
       | fail)
    apply EvK.loopV
    case ho => exact rfl
    case hp => exact rfl
    case hl => exact rfl
    case hs => repeat' (first | exact Slots.nil | (apply Slots.cons; (case hv => (conv => lhs; whnf); try exact rfl)))
    refine EvL.ind (fun q : Nat => [(13, .t (.int .i64 (q : Int)))]) (fun q => q ≤ xs.length ∧ xs.take q = ys.take q) (fun q => xs.length - q) 0 rfl (by simp) (fun q hq => ?_)
    obtain ⟨h1, h2⟩ := hq
    rcases Nat.lt_or_ge q xs.length with h3 | h3
    ·
      obtain ⟨n, hn⟩ := get_of_lt h3
      obtain ⟨m, hm'⟩ := get_of_lt (xs := ys) (k := q) (by omega)
      have hc := intsE_get hn
      have hd := intsE_get hm'
      repeat' (first
         | (with_reducible apply EvK.seq)
         | (with_reducible apply EvK.block)
         | ((with_reducible apply EvK.text); (try case hm => exact rfl))
         | ((with_reducible apply EvK.drawn); (case hm => exact rfl))
         | (with_reducible apply EvK.skip)
         | (with_reducible apply EvK.ret)
         | (with_reducible apply thenK_n)
         | (with_reducible apply thenK_r)
         | (with_reducible apply blockK_n)
         | (with_reducible apply blockK_r)
         | ((with_reducible apply EvK.cond_t); (case hc => exact rfl))
         | ((with_reducible apply EvK.cond_f); (case hc => exact rfl))
         | ((with_reducible apply EvO.spd_t); (case hp => first | assumption | omega))
         | ((with_reducible apply EvO.spn) <;> intro hq)
         | (with_reducible apply EvO.nilT)
         | ((with_reducible apply EvO.u0); (case hx => first
            | ((with_reducible apply OpR.mv); (conv => lhs; whnf); try exact rfl)
            | ((with_reducible apply OpR.asg); (conv => lhs; whnf); try exact rfl)
            | ((with_reducible apply OpR.inc); (case hx => exact rfl); (case hy => exact rfl); (case h => omega))
            | ((with_reducible apply OpR.ix); (case he => first | (with_reducible exact el0) | (with_reducible exact el1) | (with_reducible exact el2) | (with_reducible exact el3) | (with_reducible exact el4) | (with_reducible exact el5) | (with_reducible exact el6) | (with_reducible exact el7) | exact rfl); (case hx => exact rfl); (case hi => exact rfl); (case hc => assumption); (case hz => exact rfl))
            | exact OpR.r fun _ => rfl))
         | fail)
      all_goals first
        | (refine fin_b (.inr rfl) rfl ?_)
        | (refine ⟨q + 1, rfl, rfl, ⟨by omega, ?_⟩, by omega⟩)
      all_goals first
        | (rw [List.take_add_one, List.take_add_one, h2, hn, hm']; simp_all; done)
        | (symm; rw [beq_eq_false_iff_ne]; rintro rfl; rw [hn] at hm'; cases hm'; omega)
    ·
      rw [List.take_of_length_le h3, List.take_of_length_le (by omega)] at h2
      repeat' (first
         | (with_reducible apply EvK.seq)
         | ((with_reducible apply EvK.text); (try case hm => exact rfl))
         | (with_reducible apply EvK.exit)
         | (with_reducible apply EvK.ret)
         | (with_reducible apply thenK_n)
         | (with_reducible apply thenK_e)
         | (with_reducible apply blockK_h)
         | ((with_reducible apply EvK.cond_f); (case hc => exact rfl))
         | ((with_reducible apply EvO.spd_f); (case hp => first | assumption | omega))
         | (with_reducible apply EvO.nilT)
         | ((with_reducible apply EvO.u0); (case hx => first
            | ((with_reducible apply OpR.asg); (conv => lhs; whnf); try exact rfl)
            | exact OpR.r fun _ => rfl))
         | fail)
      all_goals (refine fin_b (.inr rfl) rfl ?_; rw [h2]; simp)
  ·
    repeat' (first
       | (with_reducible apply EvK.seq)
       | ((with_reducible apply EvK.text); (try case hm => exact rfl))
       | (with_reducible apply EvK.ret)
       | (with_reducible apply thenK_r)
       | ((with_reducible apply EvK.cond_t); (case hc => exact rfl))
       | ((with_reducible apply EvO.spn_t); (case hp => first | assumption | omega))
       | (with_reducible apply EvO.nilT)
       | ((with_reducible apply EvO.u0); (case hx => first
          | ((with_reducible apply OpR.mv); (conv => lhs; whnf); try exact rfl)
          | ((with_reducible apply OpR.asg); (conv => lhs; whnf); try exact rfl)
          | ((with_reducible apply OpR.len); (case ha => exact rfl); (case hy => exact rfl); (case ht => exact rfl); (case hs => exact rfl); (case hn => first | exact List.length_map _ | exact rfl))
          | exact OpR.r fun _ => rfl))
       | fail)
    all_goals (refine fin_b (.inr rfl) rfl ?_; symm; rw [beq_eq_false_iff_ne]; rintro rfl; exact hlen rfl)
end Go.Proofs.YtgbfedgghjcdcaaGreatDoor
