/- Law 52: formed events. No condition. -/
import Derived.Test.YtgbfedgghjcdcaaGreatDoorWD
namespace Go.Proofs.YtgbfedgghjcdcaaGreatDoor
set_option linter.unusedSimpArgs false
set_option linter.unusedVariables false
set_option linter.unusedSectionVars false
open Go.RowKit
set_option maxRecDepth 100000
set_option maxHeartbeats 4000000

theorem forms_c (e : Ev) : Cl cfg 53 [.t (evA e)] [] (.lm 0) [.map false [.int .i64 0, .int .i64 1, .int .i64 2] [.fn (.func 102) 0 [.lp 1 0], .fn (.func 103) 0 [.lp 1 0], .fn (.func 104) 0 [.lp 1 0]], .box false 36 ((evCs e).map .t)] := ⟨3, by kernel_rfl⟩
theorem betB_c (n l h : Int) : Cl cfg 52 [.t (.int .i64 n), .t (.int .i64 l), .t (.int .i64 h)] [] (.t (.bool (betB n l h))) [] := between_c n l h
/-- What the event that is cleared field by field holds. -/
def bodyCs (a gk gi ge ga to pl se : Int) : List SV := [.t (.int .i64 0), .t (.int .i64 0), .t (.int .i64 0), .nil, .t (.int .i64 0), .t (.int .i64 a), .t (.int .i64 gk), .t (.int .i64 gi), .t (.int .i64 ge), .t (.int .i64 ga), .t (.int .i64 to), .t (.int .i64 pl), .t (.int .i64 se)]
section
variable (e : Ev) (a gk gi ge ga to pl se : Int)
theorem form1_c : Cl cfg 102 [.lp 0 0, .t (.tp (evCs e))] [.box false 36 (bodyCs a gk gi ge ga to pl se)] (.t (.bool (actF e))) [.box false 36 (bodyCs 0 gk gi ge ga to 0 0)] := by
  refine Cl.of_body rfl Tryz.func102 rfl rfl rfl ?_
  repeat' (first
     | (with_reducible apply EvK.seq)
     | ((with_reducible apply EvK.text); (try case hm => exact rfl))
     | (with_reducible apply EvK.ret)
     | ((with_reducible apply EvO.spb (b := betB _ _ _)) <;> intro hq)
     | ((with_reducible apply EvO.spb_y (b := betB _ _ _)) <;> intro hq)
     | (with_reducible apply EvO.nilT)
     | ((with_reducible apply EvO.gf); (case hW => exact rfl))
     | ((with_reducible apply EvO.gt0); (case hW => exact rfl); (case hx => first
        | ((with_reducible apply OpR.callF); (case hcal => exact rfl); (case hav => exact rfl); (case hx => exact rfl); (case hh => exact rfl); (case hm => exact rfl); (case hcl => exact betB_c _ _ _); (case hr => exact rfl))
        | exact OpR.r fun _ => rfl))
     | ((with_reducible apply EvO.u0); (case hx => first
        | ((with_reducible apply OpR.mv); (conv => lhs; whnf); try exact rfl)
        | ((with_reducible apply OpR.asg); (conv => lhs; whnf); try exact rfl)
        | ((with_reducible apply OpR.pk_t); (case hc => exact rfl); (case h => (conv => lhs; whnf); try exact rfl))
        | ((with_reducible apply OpR.pk_f); (case hc => exact rfl); (case h => (conv => lhs; whnf); try exact rfl))
        | ((with_reducible apply OpR.callF); (case hcal => exact rfl); (case hav => exact rfl); (case hx => exact rfl); (case hh => exact rfl); (case hm => exact rfl); (case hcl => exact betB_c _ _ _); (case hr => exact rfl))
        | ((with_reducible apply OpR.fal); (case hy => exact rfl); (case ho => exact rfl); (case hn => (conv => lhs; whnf); try exact rfl))
        | ((with_reducible apply OpR.sto); (case hs => exact fun _ => rfl); (case ha => exact rfl); (case hy => exact rfl); (case ht => first | (with_reducible exact sz0) | (with_reducible exact sz1) | (with_reducible exact sz2) | (with_reducible exact sz3) | (with_reducible exact sz4) | (with_reducible exact sz5) | (with_reducible exact sz6) | (with_reducible exact sz7) | (with_reducible exact sz8) | (with_reducible exact sz9) | exact rfl); (case hv => exact rfl); (case ho => kernel_rfl); (case hb => exact rfl); (case hc => kernel_rfl); (case hd => (repeat' (first | exact LEq.nil | ((with_reducible apply LEq.cons); (case h => (conv => lhs; whnf); try exact rfl)) | (apply LEq.cons; (case h => (conv => lhs; whnf); try exact rfl))))); (case hf => (repeat' (first | exact LEq.nil | ((with_reducible apply LEq.cons); (case h => (conv => lhs; whnf); try exact rfl)) | (apply LEq.cons; (case h => (conv => lhs; whnf); try exact rfl))))))
        | exact OpR.r fun _ => rfl))
     | fail)
  all_goals (refine fin_b (.inr rfl) rfl ?_; simp [actF, *])
theorem form3_c : Cl cfg 104 [.lp 0 0, .t (.tp (evCs e))] [.box false 36 (bodyCs a gk gi ge ga to pl se)] (.t (.bool (noteF e))) [.box false 36 (bodyCs a gk gi ge ga to 0 0)] := by
  refine Cl.of_body rfl Tryz.func104 rfl rfl rfl ?_
  repeat' (first
     | (with_reducible apply EvK.seq)
     | ((with_reducible apply EvK.text); (try case hm => exact rfl))
     | (with_reducible apply EvK.ret)
     | ((with_reducible apply EvO.spb (b := betB _ _ _)) <;> intro hq)
     | ((with_reducible apply EvO.spb_y (b := betB _ _ _)) <;> intro hq)
     | (with_reducible apply EvO.nilT)
     | ((with_reducible apply EvO.gf); (case hW => exact rfl))
     | ((with_reducible apply EvO.gt0); (case hW => exact rfl); (case hx => first
        | ((with_reducible apply OpR.callF); (case hcal => exact rfl); (case hav => exact rfl); (case hx => exact rfl); (case hh => exact rfl); (case hm => exact rfl); (case hcl => exact betB_c _ _ _); (case hr => exact rfl))
        | exact OpR.r fun _ => rfl))
     | ((with_reducible apply EvO.u0); (case hx => first
        | ((with_reducible apply OpR.mv); (conv => lhs; whnf); try exact rfl)
        | ((with_reducible apply OpR.asg); (conv => lhs; whnf); try exact rfl)
        | ((with_reducible apply OpR.pk_t); (case hc => exact rfl); (case h => (conv => lhs; whnf); try exact rfl))
        | ((with_reducible apply OpR.pk_f); (case hc => exact rfl); (case h => (conv => lhs; whnf); try exact rfl))
        | ((with_reducible apply OpR.callF); (case hcal => exact rfl); (case hav => exact rfl); (case hx => exact rfl); (case hh => exact rfl); (case hm => exact rfl); (case hcl => exact betB_c _ _ _); (case hr => exact rfl))
        | ((with_reducible apply OpR.fal); (case hy => exact rfl); (case ho => exact rfl); (case hn => (conv => lhs; whnf); try exact rfl))
        | ((with_reducible apply OpR.sto); (case hs => exact fun _ => rfl); (case ha => exact rfl); (case hy => exact rfl); (case ht => first | (with_reducible exact sz0) | (with_reducible exact sz1) | (with_reducible exact sz2) | (with_reducible exact sz3) | (with_reducible exact sz4) | (with_reducible exact sz5) | (with_reducible exact sz6) | (with_reducible exact sz7) | (with_reducible exact sz8) | (with_reducible exact sz9) | exact rfl); (case hv => exact rfl); (case ho => kernel_rfl); (case hb => exact rfl); (case hc => kernel_rfl); (case hd => (repeat' (first | exact LEq.nil | ((with_reducible apply LEq.cons); (case h => (conv => lhs; whnf); try exact rfl)) | (apply LEq.cons; (case h => (conv => lhs; whnf); try exact rfl))))); (case hf => (repeat' (first | exact LEq.nil | ((with_reducible apply LEq.cons); (case h => (conv => lhs; whnf); try exact rfl)) | (apply LEq.cons; (case h => (conv => lhs; whnf); try exact rfl))))))
        | exact OpR.r fun _ => rfl))
     | fail)
  all_goals (refine fin_b (.inr rfl) rfl ?_; simp [noteF, *])
theorem form2_c (hl : e.past.length ≤ 140737488351232) : Cl cfg 103 [.lp 0 0, .t (.tp (evCs e))] [.box false 36 (bodyCs a gk gi ge ga to pl se)] (.t (.bool (giveF e))) [.box false 36 (bodyCs a 0 0 0 0 0 pl se)] := by
  refine Cl.of_body rfl Tryz.func103 rfl rfl rfl ?_
  repeat' (first
     | (with_reducible apply EvK.seq)
     | ((with_reducible apply EvK.text); (try case hm => exact rfl))
     | (with_reducible apply EvK.skip)
     | (with_reducible apply EvK.ret)
     | (with_reducible apply thenK_n)
     | ((with_reducible apply EvK.cond_t); (case hc => exact rfl))
     | ((with_reducible apply EvK.cond_f); (case hc => exact rfl))
     | ((with_reducible apply EvO.spd) <;> intro hq)
     | ((with_reducible apply EvO.spb (b := betB _ _ _)) <;> intro hq)
     | ((with_reducible apply EvO.spn_y) <;> intro hq)
     | ((with_reducible apply EvO.spb_y (b := betB _ _ _)) <;> intro hq)
     | (with_reducible apply EvO.nilT)
     | ((with_reducible apply EvO.gf); (case hW => exact rfl))
     | ((with_reducible apply EvO.gt0); (case hW => exact rfl); (case hx => first
        | ((with_reducible apply OpR.mv); (conv => lhs; whnf); try exact rfl)
        | ((with_reducible apply OpR.callF); (case hcal => exact rfl); (case hav => exact rfl); (case hx => exact rfl); (case hh => exact rfl); (case hm => exact rfl); (case hcl => exact betB_c _ _ _); (case hr => exact rfl))
        | ((with_reducible apply OpR.sub); (case hx => exact rfl); (case hy => exact rfl); (case h => omega))
        | ((with_reducible apply OpR.len); (case ha => exact rfl); (case hy => exact rfl); (case ht => exact rfl); (case hs => exact rfl); (case hn => first | exact List.length_map _ | exact rfl))
        | ((with_reducible apply OpR.fal); (case hy => exact rfl); (case ho => exact rfl); (case hn => (conv => lhs; whnf); try exact rfl))
        | exact OpR.r fun _ => rfl))
     | ((with_reducible apply EvO.u0); (case hx => first
        | ((with_reducible apply OpR.mv); (conv => lhs; whnf); try exact rfl)
        | ((with_reducible apply OpR.asg); (conv => lhs; whnf); try exact rfl)
        | ((with_reducible apply OpR.pk_t); (case hc => exact rfl); (case h => (conv => lhs; whnf); try exact rfl))
        | ((with_reducible apply OpR.pk_f); (case hc => exact rfl); (case h => (conv => lhs; whnf); try exact rfl))
        | ((with_reducible apply OpR.callF); (case hcal => exact rfl); (case hav => exact rfl); (case hx => exact rfl); (case hh => exact rfl); (case hm => exact rfl); (case hcl => exact betB_c _ _ _); (case hr => exact rfl))
        | ((with_reducible apply OpR.fal); (case hy => exact rfl); (case ho => exact rfl); (case hn => (conv => lhs; whnf); try exact rfl))
        | ((with_reducible apply OpR.al); (case hs => exact fun _ => rfl); (case hz => exact rfl); (case hc => (repeat' (first | exact LEq.nil | ((with_reducible apply LEq.cons); (case h => (conv => lhs; whnf); try exact rfl)) | (apply LEq.cons; (case h => (conv => lhs; whnf); try exact rfl))))); (case hn => (first | exact ln0 | exact ln1 | exact ln2 | exact ln3 | exact ln4 | exact ln5 | exact ln6 | exact ln7 | exact ln8 | exact ln9 | exact ln10 | exact ln11 | exact ln12 | exact ln13 | exact ln14)); (case hf => (repeat' (first | exact LEq.nil | ((with_reducible apply LEq.cons); (case h => (conv => lhs; whnf); try exact rfl)) | (apply LEq.cons; (case h => (conv => lhs; whnf); try exact rfl))))))
        | ((with_reducible apply OpR.stw); (case hs => exact fun _ => rfl); (case ha => exact rfl); (case hy => exact rfl); (case ht => first | (with_reducible exact sz0) | (with_reducible exact sz1) | (with_reducible exact sz2) | (with_reducible exact sz3) | (with_reducible exact sz4) | (with_reducible exact sz5) | (with_reducible exact sz6) | (with_reducible exact sz7) | (with_reducible exact sz8) | (with_reducible exact sz9) | exact rfl); (case ho => kernel_rfl); (case hl => kernel_rfl); (case hb => exact rfl); (case hc => kernel_rfl); (case hf => (repeat' (first | exact LEq.nil | ((with_reducible apply LEq.cons); (case h => (conv => lhs; whnf); try exact rfl)) | (apply LEq.cons; (case h => (conv => lhs; whnf); try exact rfl))))))
        | ((with_reducible apply OpR.sto); (case hs => exact fun _ => rfl); (case ha => exact rfl); (case hy => exact rfl); (case ht => first | (with_reducible exact sz0) | (with_reducible exact sz1) | (with_reducible exact sz2) | (with_reducible exact sz3) | (with_reducible exact sz4) | (with_reducible exact sz5) | (with_reducible exact sz6) | (with_reducible exact sz7) | (with_reducible exact sz8) | (with_reducible exact sz9) | exact rfl); (case hv => exact rfl); (case ho => kernel_rfl); (case hb => exact rfl); (case hc => kernel_rfl); (case hd => (repeat' (first | exact LEq.nil | ((with_reducible apply LEq.cons); (case h => (conv => lhs; whnf); try exact rfl)) | (apply LEq.cons; (case h => (conv => lhs; whnf); try exact rfl))))); (case hf => (repeat' (first | exact LEq.nil | ((with_reducible apply LEq.cons); (case h => (conv => lhs; whnf); try exact rfl)) | (apply LEq.cons; (case h => (conv => lhs; whnf); try exact rfl))))))
        | exact OpR.r fun _ => rfl))
     | fail)
  all_goals (refine fin_b (.inr rfl) rfl ?_; simp_all [giveF])
end
def evEq (e f : Ev) : Bool := decide (e.r = f.r) && (decide (e.n = f.n) && (decide (e.t = f.t) && ((e.past == f.past) && (decide (e.k = f.k) && (decide (e.a = f.a) && ((decide (e.gk = f.gk) && (decide (e.gi = f.gi) && (decide (e.ge = f.ge) && decide (e.ga = f.ga)))) && (decide (e.to = f.to) && (decide (e.pl = f.pl) && decide (e.se = f.se)))))))))
theorem need_eq2 (a b c d a' b' c' d' : Int) : eqC cfg.P 20 34 [.int .i64 a, .int .i64 b, .int .i64 c, .int .i64 d] [.int .i64 a', .int .i64 b', .int .i64 c', .int .i64 d'] = some ((decide (a = a') && (decide (b = b') && (decide (c = c') && true))) && (decide (d = d') && true)) := by kernel_rfl
theorem equal_c (e f : Ev) (he : e.past.length ≤ 140737488351232) (hf : f.past.length ≤ 140737488351232) : Cl cfg 54 [.t (evA e), .t (evA f)] [] (.t (.bool (evEq e f))) [] := by
  refine Cl.of_body rfl Tryz.func54 rfl rfl rfl ?_
  repeat' (first
     | (with_reducible apply EvK.seq)
     | ((with_reducible apply EvK.text); (try case hm => exact rfl))
     | (with_reducible apply EvO.apc)
     | (with_reducible apply EvO.apn)
     | (with_reducible apply EvK.ret)
     | ((with_reducible apply EvO.spd) <;> intro hq)
     | ((with_reducible apply EvO.spd_y) <;> intro hq)
     | ((with_reducible apply EvO.spb_y (b := _ == _)) <;> intro hq)
     | ((with_reducible apply EvO.spb_y (b := _ && _)) <;> intro hq)
     | (with_reducible apply EvO.nilT)
     | ((with_reducible apply EvO.gf); (case hW => exact rfl))
     | ((with_reducible apply EvO.gt0); (case hW => exact rfl); (case hx => first
        | ((with_reducible apply OpR.eqs); (case hx => exact rfl); (case hy => exact rfl); (case hg => exact need_g); (case ht => exact rfl); (case hr => exact need_eq2 _ _ _ _ _ _ _ _))
        | ((with_reducible apply OpR.callF); (case hcal => exact rfl); (case hav => exact rfl); (case hx => exact rfl); (case hh => exact rfl); (case hm => exact rfl); (case hcl => exact equalint_c he hf); (case hr => exact rfl))
        | ((with_reducible apply OpR.fal); (case hy => exact rfl); (case ho => exact rfl); (case hn => (conv => lhs; whnf); try exact rfl))
        | ((with_reducible apply OpR.ldt); (case hy => exact rfl); (case ht => first | (with_reducible exact sz0) | (with_reducible exact sz1) | (with_reducible exact sz2) | (with_reducible exact sz3) | (with_reducible exact sz4) | (with_reducible exact sz5) | (with_reducible exact sz6) | (with_reducible exact sz7) | (with_reducible exact sz8) | (with_reducible exact sz9)); (case hb => exact rfl); (case hl => kernel_rfl); (case hv => exact rfl); (case hx => (repeat' (first | exact Prs.nil | (apply Prs.cons)))))
        | exact OpR.r fun _ => rfl))
     | ((with_reducible apply EvO.u0); (case hx => first
        | ((with_reducible apply OpR.mv); (conv => lhs; whnf); try exact rfl)
        | ((with_reducible apply OpR.asg); (conv => lhs; whnf); try exact rfl)
        | ((with_reducible apply OpR.pk_t); (case hc => exact rfl); (case h => (conv => lhs; whnf); try exact rfl))
        | ((with_reducible apply OpR.pk_f); (case hc => exact rfl); (case h => (conv => lhs; whnf); try exact rfl))
        | ((with_reducible apply OpR.fal); (case hy => exact rfl); (case ho => exact rfl); (case hn => (conv => lhs; whnf); try exact rfl))
        | ((with_reducible apply OpR.bxt); (case hs => exact fun _ => rfl); (case hy => exact rfl); (case ho => kernel_rfl); (case hn => (first | exact ln0 | exact ln1 | exact ln2 | exact ln3 | exact ln4 | exact ln5 | exact ln6 | exact ln7 | exact ln8 | exact ln9 | exact ln10 | exact ln11 | exact ln12 | exact ln13 | exact ln14)); (case hf => (repeat' (first | exact LEq.nil | ((with_reducible apply LEq.cons); (case h => (conv => lhs; whnf); try exact rfl)) | (apply LEq.cons; (case h => (conv => lhs; whnf); try exact rfl))))))
        | exact OpR.r fun _ => rfl))
     | fail)
  all_goals (refine fin_b (.inr rfl) rfl ?_; simp_all [evEq])
end Go.Proofs.YtgbfedgghjcdcaaGreatDoor
