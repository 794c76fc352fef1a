/- Law 52: formed events, the reference's. No condition. -/
import Derived.Test.YtgbfedgghjcdcaaGreatDoorWF
namespace Go.Proofs.YtgbfedgghjcdcaaGreatDoor
set_option linter.unusedSimpArgs false
set_option linter.unusedVariables false
set_option linter.unusedSectionVars false
open Go.RowKit
set_option maxRecDepth 100000
set_option maxHeartbeats 4000000

theorem rvalid_c {xs : List Int} (hl : xs.length ≤ 140737488351232) : Cl cfg 55 [.t (intsA xs)] [] (.t (.bool (validB xs))) [] := by
  refine Cl.of_body rfl Tryz.func55 rfl rfl rfl ?_
  repeat' (first
     | (with_reducible apply EvK.seq)
     | (with_reducible apply EvK.block)
     | ((with_reducible apply EvK.text); (try case hm => exact rfl))
     | (with_reducible apply EvO.nilT)
     | ((with_reducible apply EvO.u0); (case hx => ((with_reducible apply OpR.asg); (conv => lhs; whnf); try exact rfl)))
     | fail)
  apply EvK.loopV
  case ho => exact rfl
  case hp => exact rfl
  case hl => exact rfl
  case hs => repeat' (first | exact Slots.nil | (apply Slots.cons; (case hv => (conv => lhs; whnf); try exact rfl)))
  refine EvL.ind (fun q : Nat => [(3, .t (.int .i64 (q : Int)))]) (fun q => q ≤ xs.length ∧ (xs.take q).all ok1 = true) (fun q => xs.length - q) 0 rfl (by simp) (fun q hq => ?_)
  obtain ⟨h1, h2⟩ := hq
  rcases Nat.lt_or_ge q xs.length with h3 | h3
  ·
    obtain ⟨n, hn⟩ := get_of_lt h3
    have hc := intsE_get hn
    repeat' (first
       | (with_reducible apply EvK.seq)
       | (with_reducible apply EvK.block)
       | ((with_reducible apply EvK.text); (try case hm => exact rfl))
       | (with_reducible apply EvK.skip)
       | (with_reducible apply EvK.ret)
       | (with_reducible apply thenK_n)
       | (with_reducible apply thenK_r)
       | (with_reducible apply blockK_n)
       | (with_reducible apply blockK_r)
       | ((with_reducible apply EvK.cond_t); (case hc => exact rfl))
       | ((with_reducible apply EvK.cond_f); (case hc => exact rfl))
       | ((with_reducible apply EvO.spd_t); (case hp => first | assumption | omega))
       | ((with_reducible apply EvO.spd) <;> intro hq)
       | ((with_reducible apply EvO.spd_y) <;> intro hq)
       | (with_reducible apply EvO.nilT)
       | ((with_reducible apply EvO.gf); (case hW => exact rfl))
       | ((with_reducible apply EvO.gt0); (case hW => exact rfl); (case hx => first
          | ((with_reducible apply OpR.mv); (conv => lhs; whnf); try exact rfl)
          | ((with_reducible apply OpR.ix); (case he => first | (with_reducible exact el0) | (with_reducible exact el1) | (with_reducible exact el2) | (with_reducible exact el3) | (with_reducible exact el4) | (with_reducible exact el5) | (with_reducible exact el6) | (with_reducible exact el7) | exact rfl); (case hx => exact rfl); (case hi => exact rfl); (case hc => assumption); (case hz => exact rfl))
          | exact OpR.r fun _ => rfl))
       | ((with_reducible apply EvO.u0); (case hx => first
          | ((with_reducible apply OpR.mv); (conv => lhs; whnf); try exact rfl)
          | ((with_reducible apply OpR.asg); (conv => lhs; whnf); try exact rfl)
          | ((with_reducible apply OpR.pk_t); (case hc => exact rfl); (case h => (conv => lhs; whnf); try exact rfl))
          | ((with_reducible apply OpR.pk_f); (case hc => exact rfl); (case h => (conv => lhs; whnf); try exact rfl))
          | ((with_reducible apply OpR.inc); (case hx => exact rfl); (case hy => exact rfl); (case h => omega))
          | ((with_reducible apply OpR.len); (case ha => exact rfl); (case hy => exact rfl); (case ht => exact rfl); (case hs => exact rfl); (case hn => first | exact List.length_map _ | exact rfl))
          | ((with_reducible apply OpR.ix); (case he => first | (with_reducible exact el0) | (with_reducible exact el1) | (with_reducible exact el2) | (with_reducible exact el3) | (with_reducible exact el4) | (with_reducible exact el5) | (with_reducible exact el6) | (with_reducible exact el7) | exact rfl); (case hx => exact rfl); (case hi => exact rfl); (case hc => assumption); (case hz => exact rfl))
          | exact OpR.r fun _ => rfl))
       | fail)
    all_goals first
      | (refine fin_b (.inr rfl) rfl ?_)
      | (refine ⟨q + 1, rfl, rfl, ⟨by omega, all_more h2 hn ?_⟩, by omega⟩)
    all_goals first
      | (rw [validB, all_bad hn (by simp [ok1]; omega)]; rfl)
      | (simp [ok1]; omega)
  ·
    have h4 := all_end h2 h3
    repeat' (first
       | (with_reducible apply EvK.seq)
       | ((with_reducible apply EvK.text); (try case hm => exact rfl))
       | (with_reducible apply EvK.exit)
       | (with_reducible apply EvK.ret)
       | (with_reducible apply thenK_n)
       | (with_reducible apply thenK_e)
       | (with_reducible apply blockK_h)
       | ((with_reducible apply EvK.cond_f); (case hc => exact rfl))
       | ((with_reducible apply EvO.spd_f); (case hp => first | assumption | omega))
       | ((with_reducible apply EvO.spd) <;> intro hq)
       | ((with_reducible apply EvO.spd_y) <;> intro hq)
       | (with_reducible apply EvO.nilT)
       | ((with_reducible apply EvO.gf); (case hW => exact rfl))
       | ((with_reducible apply EvO.gt0); (case hW => exact rfl); (case hx => first
          | ((with_reducible apply OpR.mv); (conv => lhs; whnf); try exact rfl)
          | ((with_reducible apply OpR.len); (case ha => exact rfl); (case hy => exact rfl); (case ht => exact rfl); (case hs => exact rfl); (case hn => first | exact List.length_map _ | exact rfl))
          | exact OpR.r fun _ => rfl))
       | ((with_reducible apply EvO.u0); (case hx => first
          | ((with_reducible apply OpR.mv); (conv => lhs; whnf); try exact rfl)
          | ((with_reducible apply OpR.asg); (conv => lhs; whnf); try exact rfl)
          | ((with_reducible apply OpR.pk_t); (case hc => exact rfl); (case h => (conv => lhs; whnf); try exact rfl))
          | ((with_reducible apply OpR.pk_f); (case hc => exact rfl); (case h => (conv => lhs; whnf); try exact rfl))
          | ((with_reducible apply OpR.len); (case ha => exact rfl); (case hy => exact rfl); (case ht => exact rfl); (case hs => exact rfl); (case hn => first | exact List.length_map _ | exact rfl))
          | exact OpR.r fun _ => rfl))
       | fail)
    all_goals (refine fin_b (.inr rfl) rfl ?_; rw [validB, h4]; simp; omega)
end Go.Proofs.YtgbfedgghjcdcaaGreatDoor
