/- Law 52: events. No condition. -/
import Derived.Test.YtjdhnoffoknlnaaGreatDoorWC
namespace Go.Proofs.YtjdhnoffoknlnaaGreatDoor
set_option linter.unusedSimpArgs false
set_option linter.unusedVariables false
set_option linter.unusedSectionVars false
open Go.RowKit
set_option maxRecDepth 100000
theorem need_eq (a b c d : Int) : eqC cfg.P 20 33 [.int .i64 a, .int .i64 b, .int .i64 c, .int .i64 d] [.int .i64 0, .int .i64 0, .int .i64 0, .int .i64 0] = some ((decide (a = 0) && (decide (b = 0) && (decide (c = 0) && true))) && (decide (d = 0) && true)) := by kernel_rfl
theorem need_g : cfg.P.eqGuardType cfg.P.depth 33 = false := by kernel_rfl
theorem empty_c {e : Ev} (hl : e.past.length ≤ 140737488351232) : Cl cfg 59 [.t (evA e)] [] (.t (.bool (emptyB e))) [] := by
  refine Cl.of_body rfl Tryz.func59 rfl rfl rfl ?_
  have hc := conint_c (xs := [e.r, e.n, e.t, e.k, e.a, e.to, e.pl, e.se]) (by simp) nz_c
  repeat' (first
     | (with_reducible apply EvK.seq)
     | (with_reducible apply EvK.text)
     | (with_reducible apply EvK.ret)
     | ((with_reducible apply EvO.spd) <;> intro hq)
     | ((with_reducible apply EvO.spb_y (b := List.any _ _)) <;> intro hq)
     | ((with_reducible apply EvO.spb_y (b := _ && _)) <;> intro hq)
     | (with_reducible apply EvO.nilT)
     | ((with_reducible apply EvO.gf); (case hW => exact rfl))
     | ((with_reducible apply EvO.gt0); (case hW => exact rfl); (case hx => first
        | ((with_reducible apply OpR.mv); (conv => lhs; whnf); try exact rfl)
        | ((with_reducible apply OpR.eqs); (case hx => exact rfl); (case hy => exact rfl); (case hg => exact need_g); (case ht => exact rfl); (case hr => exact need_eq _ _ _ _))
        | ((with_reducible apply OpR.callF); (case hcal => exact rfl); (case hav => exact rfl); (case hx => exact rfl); (case hh => exact rfl); (case hm => exact rfl); (case hcl => exact hc); (case hr => exact rfl))
        | ((with_reducible apply OpR.fal); (case hy => exact rfl); (case ho => exact rfl); (case hn => (conv => lhs; whnf); try exact rfl))
        | ((with_reducible apply OpR.ldt); (case hy => exact rfl); (case ht => first | (with_reducible exact sz0) | (with_reducible exact sz1) | (with_reducible exact sz2) | (with_reducible exact sz3) | (with_reducible exact sz4) | (with_reducible exact sz5) | (with_reducible exact sz6) | (with_reducible exact sz7) | (with_reducible exact sz8) | (with_reducible exact sz9)); (case hb => exact rfl); (case hl => kernel_rfl); (case hv => exact rfl); (case hx => (repeat' (first | exact Prs.nil | (apply Prs.cons)))))
        | exact OpR.r fun _ => rfl))
     | ((with_reducible apply EvO.u0); (case hx => first
        | ((with_reducible apply OpR.mv); (conv => lhs; whnf); try exact rfl)
        | ((with_reducible apply OpR.asg); (conv => lhs; whnf); try exact rfl)
        | ((with_reducible apply OpR.pk_t); (case hc => exact rfl); (case h => (conv => lhs; whnf); try exact rfl))
        | ((with_reducible apply OpR.pk_f); (case hc => exact rfl); (case h => (conv => lhs; whnf); try exact rfl))
        | ((with_reducible apply OpR.bsl (es := intsE [e.r, e.n, e.t, e.k, e.a, e.to, e.pl, e.se])); (case hw => exact rfl); (case ho => kernel_rfl); (case h => kernel_rfl))
        | ((with_reducible apply OpR.len); (case ha => exact rfl); (case hy => exact rfl); (case ht => exact rfl); (case hs => exact rfl); (case hn => first | exact List.length_map _ | exact rfl))
        | ((with_reducible apply OpR.fal); (case hy => exact rfl); (case ho => exact rfl); (case hn => (conv => lhs; whnf); try exact rfl))
        | ((with_reducible apply OpR.bxt); (case hs => exact fun _ => rfl); (case hy => exact rfl); (case ho => kernel_rfl); (case hn => (first | exact ln0 | exact ln1 | exact ln2 | exact ln3 | exact ln4 | exact ln5 | exact ln6 | exact ln7 | exact ln8 | exact ln9 | exact ln10 | exact ln11 | exact ln12 | exact ln13 | exact ln14)); (case hf => (repeat' (first | exact LEq.nil | ((with_reducible apply LEq.cons); (case h => (conv => lhs; whnf); try exact rfl)) | (apply LEq.cons; (case h => (conv => lhs; whnf); try exact rfl))))))
        | exact OpR.r fun _ => rfl))
     | fail)
  all_goals (clear hc; refine fin_b (.inr rfl) rfl ?_; first | (rw [emptyB, hq]; simp; done) | (simp_all [emptyB, needZ]; done))
end Go.Proofs.YtjdhnoffoknlnaaGreatDoor
