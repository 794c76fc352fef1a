/- Law 32: EventPasts. No condition. -/
import Derived.Test.YtgbfedgghjcdcaaGreatDoorKN
namespace Go.Proofs.YtgbfedgghjcdcaaGreatDoor
set_option linter.unusedSimpArgs false
set_option linter.unusedVariables false
set_option linter.unusedSectionVars false
open Go.RowKit
set_option maxRecDepth 100000
set_option maxHeartbeats 32000000

theorem law_pasts (l : List Ev) (c : List Int) (hl : l.length ≤ 17592186044416) (hp : ∀ e ∈ l, e.past.length ≤ 17592186044416) (hcl : c.length ≤ 17592186044416) : Cl cfg 9 [.t (.arr (evsE l)), .t (intsA c)] [] (.t (.bool true)) [] := by
  have hp : ∀ e ∈ l, e.past.length ≤ 140737488351232 := fun e he => by have := hp e he; omega
  have hlE := evsE_len l
  have hcE := intsE_len c
  have kf := few0_c (l := l) (by omega) hp
  have kc := closed_c (l := l) (by omega) hp
  have kv := valid_c (xs := c) (by omega)
  unfold z7 at kf
  cases hf : few0B l with
  | false =>
    rw [hf] at kf
    refine Cl.of_body rfl Tryz.func9 rfl rfl rfl ?_
    repeat' (first
       | (with_reducible apply EvK.seq)
       | ((with_reducible apply EvK.text); (try case hm => exact rfl))
       | (with_reducible apply EvK.skip)
       | (with_reducible apply EvK.ret)
       | (with_reducible apply thenK_n)
       | (with_reducible apply thenK_r)
       | ((with_reducible apply EvK.cond_t); (case hc => exact rfl))
       | ((with_reducible apply EvK.cond_f); (case hc => exact rfl))
       | (with_reducible apply EvO.nilT)
       | ((with_reducible apply EvO.gf); (case hW => exact rfl))
       | ((with_reducible apply EvO.u0); (case hx => first
          | ((with_reducible apply OpR.mv); (conv => lhs; whnf); try exact rfl)
          | ((with_reducible apply OpR.asg); (conv => lhs; whnf); try exact rfl)
          | ((with_reducible apply OpR.pk_t); (case hc => exact rfl); (case h => (conv => lhs; whnf); try exact rfl))
          | ((with_reducible apply OpR.callF); (case hcal => exact rfl); (case hav => exact rfl); (case hx => exact rfl); (case hh => exact rfl); (case hm => exact rfl); (case hcl => exact awake_c); (case hr => exact rfl))
          | ((with_reducible apply OpR.callF); (case hcal => exact rfl); (case hav => exact rfl); (case hx => exact rfl); (case hh => exact rfl); (case hm => exact rfl); (case hcl => exact kf); (case hr => exact rfl))
          | exact OpR.r fun _ => rfl))
       | fail)
    exact ⟨.inr rfl, rfl⟩
  | true =>
    rw [hf] at kf
    by_cases h30 : l.length ≤ 30
    ·
      cases hcb : closedB l with
      | false =>
        rw [hcb] at kc
        refine Cl.of_body rfl Tryz.func9 rfl rfl rfl ?_
        repeat' (first
           | (with_reducible apply EvK.seq)
           | ((with_reducible apply EvK.text); (try case hm => exact rfl))
           | (with_reducible apply EvK.skip)
           | (with_reducible apply EvK.ret)
           | (with_reducible apply thenK_n)
           | (with_reducible apply thenK_r)
           | ((with_reducible apply EvK.cond_t); (case hc => exact rfl))
           | ((with_reducible apply EvK.cond_f); (case hc => exact rfl))
           | ((with_reducible apply EvO.spd_yf); (case hp => first | assumption | omega))
           | (with_reducible apply EvO.nilT)
           | ((with_reducible apply EvO.gt0); (case hW => exact rfl); (case hx => first
              | ((with_reducible apply OpR.mv); (conv => lhs; whnf); try exact rfl)
              | ((with_reducible apply OpR.callF); (case hcal => exact rfl); (case hav => exact rfl); (case hx => exact rfl); (case hh => exact rfl); (case hm => exact rfl); (case hcl => exact kc); (case hr => exact rfl))
              | ((with_reducible apply OpR.len); (case ha => exact rfl); (case hy => exact rfl); (case ht => exact rfl); (case hs => exact rfl); (case hn => first | exact List.length_map _ | exact rfl))
              | exact OpR.r fun _ => rfl))
           | ((with_reducible apply EvO.u0); (case hx => first
              | ((with_reducible apply OpR.mv); (conv => lhs; whnf); try exact rfl)
              | ((with_reducible apply OpR.asg); (conv => lhs; whnf); try exact rfl)
              | ((with_reducible apply OpR.pk_f); (case hc => exact rfl); (case h => (conv => lhs; whnf); try exact rfl))
              | ((with_reducible apply OpR.callF); (case hcal => exact rfl); (case hav => exact rfl); (case hx => exact rfl); (case hh => exact rfl); (case hm => exact rfl); (case hcl => exact awake_c); (case hr => exact rfl))
              | ((with_reducible apply OpR.callF); (case hcal => exact rfl); (case hav => exact rfl); (case hx => exact rfl); (case hh => exact rfl); (case hm => exact rfl); (case hcl => exact kf); (case hr => exact rfl))
              | exact OpR.r fun _ => rfl))
           | fail)
        exact ⟨.inr rfl, rfl⟩
      | true =>
        rw [hcb] at kc
        have hC := closedB_iff.1 hcb
        match l, hl, hp, hlE, kf, kc, h30, hC with
        | [], _, _, _, kf, kc, _, _ =>
          have kf : Cl cfg 11 [.t (.agg [.arr [], .arr [], .arr [], .arr [], .arr [], .arr [], .arr []]), .t (.arr [])] [] (.t (.bool true)) [] := kf
          have kc : Cl cfg 37 [.t (.arr [])] [] (.t (.bool true)) [] := kc
          have hz : ([] : List (List AV)).length = 0 := rfl
          have e0 : evsE [] = [] := rfl
          rw [e0]
          refine Cl.of_body rfl Tryz.func9 rfl rfl rfl ?_
          repeat' (first
             | (with_reducible apply EvK.seq)
             | (with_reducible apply EvK.block)
             | ((with_reducible apply EvK.text); (try case hm => exact rfl))
             | (with_reducible apply EvK.skip)
             | (with_reducible apply thenK_n)
             | ((with_reducible apply EvK.cond_f); (case hc => exact rfl))
             | ((with_reducible apply EvO.spn_f); (case hp => first | assumption | omega))
             | ((with_reducible apply EvO.spd_yf); (case hp => first | assumption | omega))
             | (with_reducible apply EvO.nilT)
             | ((with_reducible apply EvO.gt0); (case hW => exact rfl); (case hx => first
                | ((with_reducible apply OpR.mv); (conv => lhs; whnf); try exact rfl)
                | ((with_reducible apply OpR.callF); (case hcal => exact rfl); (case hav => exact rfl); (case hx => exact rfl); (case hh => exact rfl); (case hm => exact rfl); (case hcl => exact kc); (case hr => exact rfl))
                | ((with_reducible apply OpR.len); (case ha => exact rfl); (case hy => exact rfl); (case ht => exact rfl); (case hs => exact rfl); (case hn => first | exact List.length_map _ | exact rfl))
                | exact OpR.r fun _ => rfl))
             | ((with_reducible apply EvO.u0); (case hx => first
                | ((with_reducible apply OpR.mv); (conv => lhs; whnf); try exact rfl)
                | ((with_reducible apply OpR.asg); (conv => lhs; whnf); try exact rfl)
                | ((with_reducible apply OpR.pk_f); (case hc => exact rfl); (case h => (conv => lhs; whnf); try exact rfl))
                | ((with_reducible apply OpR.callF); (case hcal => exact rfl); (case hav => exact rfl); (case hx => exact rfl); (case hh => exact rfl); (case hm => exact rfl); (case hcl => exact awake_c); (case hr => exact rfl))
                | ((with_reducible apply OpR.callF); (case hcal => exact rfl); (case hav => exact rfl); (case hx => exact rfl); (case hh => exact rfl); (case hm => exact rfl); (case hcl => exact kf); (case hr => exact rfl))
                | ((with_reducible apply OpR.callN); (case hcal => exact rfl); (case hav => exact rfl); (case hx => exact rfl); (case hh => exact rfl); (case hm => exact rfl); (case hcl => exact order_n); (case hn => exact rfl); (case hr => exact rfl))
                | ((with_reducible apply OpR.len); (case ha => exact rfl); (case hy => exact rfl); (case ht => exact rfl); (case hs => exact rfl); (case hn => first | exact List.length_map _ | exact rfl))
                | exact OpR.r fun _ => rfl))
             | fail)
          apply EvK.loopV
          case ho => exact rfl
          case hp => exact rfl
          case hl => exact rfl
          case hs => repeat' (first | exact Slots.nil | (apply Slots.cons; (case hv => (conv => lhs; whnf); try exact rfl)))
          refine EvL.step ?_
          repeat' (first
             | (with_reducible apply EvK.seq)
             | ((with_reducible apply EvK.text); (try case hm => exact rfl))
             | (with_reducible apply EvK.exit)
             | (with_reducible apply EvK.ret)
             | (with_reducible apply thenK_n)
             | (with_reducible apply thenK_e)
             | (with_reducible apply thenK_r)
             | (with_reducible apply blockK_h)
             | ((with_reducible apply EvK.cond_t); (case hc => exact rfl))
             | ((with_reducible apply EvK.cond_f); (case hc => exact rfl))
             | ((with_reducible apply EvO.spd_t); (case hp => first | assumption | omega))
             | ((with_reducible apply EvO.spd_f); (case hp => first | assumption | omega))
             | (with_reducible apply EvO.nilT)
             | ((with_reducible apply EvO.gf); (case hW => exact rfl))
             | ((with_reducible apply EvO.u0); (case hx => first
                | ((with_reducible apply OpR.mv); (conv => lhs; whnf); try exact rfl)
                | ((with_reducible apply OpR.asg); (conv => lhs; whnf); try exact rfl)
                | ((with_reducible apply OpR.pk_t); (case hc => exact rfl); (case h => (conv => lhs; whnf); try exact rfl))
                | ((with_reducible apply OpR.len); (case ha => exact rfl); (case hy => exact rfl); (case ht => exact rfl); (case hs => exact rfl); (case hn => first | exact List.length_map _ | exact rfl))
                | exact OpR.r fun _ => rfl))
             | fail)
          exact ⟨.inr rfl, rfl⟩
        | e0 :: l', hl, hp, hlE, kf, kc, h30, hC =>
          have ko := order_c (e := e0) (l := l') (by simp at h30; omega)
          exact law_pasts_c hC rfl hp h30 hcl awake_c kf kc ko kv
    ·
      refine Cl.of_body rfl Tryz.func9 rfl rfl rfl ?_
      repeat' (first
         | (with_reducible apply EvK.seq)
         | ((with_reducible apply EvK.text); (try case hm => exact rfl))
         | (with_reducible apply EvK.skip)
         | (with_reducible apply EvK.ret)
         | (with_reducible apply thenK_n)
         | (with_reducible apply thenK_r)
         | ((with_reducible apply EvK.cond_t); (case hc => exact rfl))
         | ((with_reducible apply EvK.cond_f); (case hc => exact rfl))
         | ((with_reducible apply EvO.spd_yt); (case hp => first | assumption | omega))
         | (with_reducible apply EvO.nilT)
         | ((with_reducible apply EvO.gf); (case hW => exact rfl))
         | ((with_reducible apply EvO.gt0); (case hW => exact rfl); (case hx => first
            | ((with_reducible apply OpR.mv); (conv => lhs; whnf); try exact rfl)
            | ((with_reducible apply OpR.len); (case ha => exact rfl); (case hy => exact rfl); (case ht => exact rfl); (case hs => exact rfl); (case hn => first | exact List.length_map _ | exact rfl))
            | exact OpR.r fun _ => rfl))
         | ((with_reducible apply EvO.u0); (case hx => first
            | ((with_reducible apply OpR.mv); (conv => lhs; whnf); try exact rfl)
            | ((with_reducible apply OpR.asg); (conv => lhs; whnf); try exact rfl)
            | ((with_reducible apply OpR.pk_t); (case hc => exact rfl); (case h => (conv => lhs; whnf); try exact rfl))
            | ((with_reducible apply OpR.pk_f); (case hc => exact rfl); (case h => (conv => lhs; whnf); try exact rfl))
            | ((with_reducible apply OpR.callF); (case hcal => exact rfl); (case hav => exact rfl); (case hx => exact rfl); (case hh => exact rfl); (case hm => exact rfl); (case hcl => exact awake_c); (case hr => exact rfl))
            | ((with_reducible apply OpR.callF); (case hcal => exact rfl); (case hav => exact rfl); (case hx => exact rfl); (case hh => exact rfl); (case hm => exact rfl); (case hcl => exact kf); (case hr => exact rfl))
            | exact OpR.r fun _ => rfl))
         | fail)
      exact ⟨.inr rfl, rfl⟩
end Go.Proofs.YtgbfedgghjcdcaaGreatDoor
