/- Law 52: SessionChecks. No condition. -/
import Derived.Test.YtjdhnoffoknlnaaDoorWP
import Derived.Test.YtjdhnoffoknlnaaDoorWQ
namespace Go.Proofs.YtjdhnoffoknlnaaDoor
set_option linter.unusedSimpArgs false
set_option linter.unusedVariables false
set_option linter.unusedSectionVars false
open Go.RowKit
set_option maxRecDepth 100000

theorem awake_c : Cl cfg 6 [] [] (.t (.bool true)) [] := ⟨40, by kernel_rfl⟩
theorem law_checks (n : Int) (l : List SAct) (hl : l.length ≤ 17592186044416) (hc : ∀ a ∈ l, a.cl.length ≤ 17592186044416 ∧ a.ev.past.length ≤ 17592186044416) : Cl cfg 3 [.t (.int .i64 n), .t (actsA l)] [] (.t (.bool true)) [] := by
  have hc' : ∀ a ∈ l, a.cl.length ≤ 140737488351232 ∧ a.ev.past.length ≤ 140737488351232 := fun a h => by have := hc a h; omega
  have hs := scheck_c n l (by omega) hc'
  have hr := rcheck_c n l (by omega) hc'
  have hf := few_c l (by omega)
  rw [check_eq] at hs
  refine Cl.of_body rfl Tryd.func3 rfl rfl rfl ?_
  repeat' (first
     | (with_reducible apply EvK.seq)
     | (with_reducible apply EvK.text)
     | (with_reducible apply EvK.skip)
     | (with_reducible apply EvK.ret)
     | (with_reducible apply thenK_n)
     | (with_reducible apply thenK_r)
     | ((with_reducible apply EvK.cond_t); (case hc => exact rfl))
     | ((with_reducible apply EvK.cond_f); (case hc => exact rfl))
     | ((with_reducible apply EvO.spd_t); (case hp => first | assumption | omega))
     | ((with_reducible apply EvO.spb (b := fewActs _)) <;> intro hq)
     | ((with_reducible apply EvO.spd_yt); (case hp => first | assumption | omega))
     | (with_reducible apply EvO.nilT)
     | ((with_reducible apply EvO.gt0); (case hW => exact rfl); (case hx => first
        | ((with_reducible apply OpR.mv); (conv => lhs; whnf); try exact rfl)
        | exact OpR.r fun _ => rfl))
     | ((with_reducible apply EvO.u0); (case hx => first
        | ((with_reducible apply OpR.mv); (conv => lhs; whnf); try exact rfl)
        | ((with_reducible apply OpR.asg); (conv => lhs; whnf); try exact rfl)
        | ((with_reducible apply OpR.pk_t); (case hc => exact rfl); (case h => (conv => lhs; whnf); try exact rfl))
        | ((with_reducible apply OpR.callF); (case hcal => exact rfl); (case hav => exact rfl); (case hx => exact rfl); (case hh => exact rfl); (case hm => exact rfl); (case hcl => exact awake_c); (case hr => exact rfl))
        | ((with_reducible apply OpR.callF); (case hcal => exact rfl); (case hav => exact rfl); (case hx => exact rfl); (case hh => exact rfl); (case hm => exact rfl); (case hcl => exact hf); (case hr => exact rfl))
        | ((with_reducible apply OpR.callF); (case hcal => exact rfl); (case hav => exact rfl); (case hx => exact rfl); (case hh => exact rfl); (case hm => exact rfl); (case hcl => exact hs); (case hr => exact rfl))
        | ((with_reducible apply OpR.callF); (case hcal => exact rfl); (case hav => exact rfl); (case hx => exact rfl); (case hh => exact rfl); (case hm => exact rfl); (case hcl => exact hr); (case hr => exact rfl))
        | exact OpR.r fun _ => rfl))
     | fail)
  all_goals (refine fin_b (.inr rfl) rfl ?_; rfl)
theorem law_checks_all (xs : List AV) (h : Args Tryd.prog 8 Tryd.f3.params.toList xs) : Cl cfg 3 (xs.map .t) [] (.t (.bool true)) [] := by
  rw [Tryd.params3] at h
  obtain ⟨x0, _, rfl, h0, x1, _, rfl, h1, rfl⟩ := h
  obtain ⟨n, rfl⟩ := arg_int h0
  obtain ⟨l, rfl, hl, hc⟩ := arg_acts h1
  exact law_checks n l hl hc
end Go.Proofs.YtjdhnoffoknlnaaDoor
