/- Law 52: texts of clocks, any text: the code's reading, the reference's. No condition. -/
import Derived.Test.YtgbfedgghjcdcaaGreatDoorXA
import Derived.Test.YtgbfedgghjcdcaaGreatDoorTD
import Derived.Test.YtgbfedgghjcdcaaGreatDoorTW
import Derived.Test.YtgbfedgghjcdcaaGreatDoorWA
namespace Go.Proofs.YtgbfedgghjcdcaaGreatDoor
set_option linter.unusedSimpArgs false
set_option linter.unusedVariables false
set_option linter.unusedSectionVars false
open Go.RowKit
set_option maxRecDepth 100000
set_option maxHeartbeats 8000000

end Go.Proofs.YtgbfedgghjcdcaaGreatDoor

namespace Go.Proofs.YtgbfedgghjcdcaaGreatDoor
set_option linter.unusedSimpArgs false
set_option linter.unusedVariables false
set_option linter.unusedSectionVars false
open Go.RowKit
set_option maxRecDepth 100000
set_option maxHeartbeats 16000000

end Go.Proofs.YtgbfedgghjcdcaaGreatDoor

namespace Go.Proofs.YtgbfedgghjcdcaaGreatDoor
set_option linter.unusedSimpArgs false
set_option linter.unusedVariables false
set_option linter.unusedSectionVars false
open Go.RowKit
set_option maxRecDepth 100000
set_option maxHeartbeats 16000000

end Go.Proofs.YtgbfedgghjcdcaaGreatDoor

namespace Go.Proofs.YtgbfedgghjcdcaaGreatDoor
set_option linter.unusedSimpArgs false
set_option linter.unusedVariables false
set_option linter.unusedSectionVars false
open Go.RowKit
set_option maxRecDepth 100000
set_option maxHeartbeats 16000000

end Go.Proofs.YtgbfedgghjcdcaaGreatDoor

namespace Go.Proofs.YtgbfedgghjcdcaaGreatDoor
set_option linter.unusedSimpArgs false
set_option linter.unusedVariables false
set_option linter.unusedSectionVars false
open Go.RowKit
set_option maxRecDepth 100000
set_option maxHeartbeats 16000000

theorem awake_c : Cl cfg 10 [] [] (.t (.bool true)) [] := ⟨60, by kernel_rfl⟩
end Go.Proofs.YtgbfedgghjcdcaaGreatDoor

namespace Go.Proofs.YtgbfedgghjcdcaaGreatDoor
set_option linter.unusedSimpArgs false
set_option linter.unusedVariables false
set_option linter.unusedSectionVars false
open Go.RowKit
set_option maxRecDepth 100000
set_option maxHeartbeats 16000000

theorem requal2_c (e f : Ev) (he : e.past.length ≤ 140737488351232) (hf : f.past.length ≤ 140737488351232) : Cl cfg 24 [.t (evA e), .t (evA f)] [] (.t (.bool (evEq e f))) [] := by
  refine Cl.of_body rfl Tryz.func24 rfl rfl rfl ?_
  repeat' (first
 | (with_reducible apply EvK.seq)
 | ((with_reducible apply EvK.text); (try case hm => exact rfl))
 | (with_reducible apply EvO.apc)
 | (with_reducible apply EvO.apn)
 | (with_reducible apply EvK.ret)
 | (with_reducible apply EvO.nilT)
 | ((with_reducible apply EvO.gd); (case hW => first | exact gOf_tt rfl rfl | exact gOf_tf rfl rfl | ((with_reducible apply gOf_ct); (case h => exact rfl); (case he => repeat (first | with_reducible exact env_hit _ _ _ | (with_reducible refine env_skip rfl ?_) | with_reducible refine env_none ?_))) | ((with_reducible apply gOf_cf); (case h => exact rfl); (case he => repeat (first | with_reducible exact env_hit _ _ _ | (with_reducible refine env_skip rfl ?_) | with_reducible refine env_none ?_)))); (case hx => (intro hw; (rw [hw]); (first
 | ((with_reducible apply OpR.eqs); (case hx => exact rfl); (case hy => exact rfl); (case hg => exact need_g); (case ht => exact rfl); (case hr => exact need_eq2 _ _ _ _ _ _ _ _))
 | ((with_reducible apply OpR.callF); (case hcal => exact rfl); (case hav => exact rfl); (case hx => exact rfl); (case hh => exact rfl); (case hm => exact rfl); (case hcl => exact rints_c he hf); (case hr => exact rfl))
 | ((with_reducible apply OpR.fal); (case hy => exact rfl); (case ho => exact rfl); (case hn => (conv => lhs; whnf); try exact rfl))
 | ((with_reducible apply OpR.ldt); (case hy => exact rfl); (case ht => first | (with_reducible exact sz0) | (with_reducible exact sz1) | (with_reducible exact sz2) | (with_reducible exact sz3) | (with_reducible exact sz4) | (with_reducible exact sz5) | (with_reducible exact sz6) | (with_reducible exact sz7) | (with_reducible exact sz8) | (with_reducible exact sz9)); (case hb => exact rfl); (case hl => kernel_rfl); (case hv => exact rfl); (case hx => (repeat' (first | exact Prs.nil | (apply Prs.cons)))))
 | exact OpR.r fun _ => rfl))))
 | ((with_reducible apply EvO.u0); (case hx => first
 | ((with_reducible apply OpR.mv); (conv => lhs; whnf); try exact rfl)
 | ((with_reducible apply OpR.asg); (conv => lhs; whnf); try exact rfl)
 | ((with_reducible apply OpR.fal); (case hy => exact rfl); (case ho => exact rfl); (case hn => (conv => lhs; whnf); try exact rfl))
 | ((with_reducible apply OpR.bxt); (case hs => exact fun _ => rfl); (case hy => exact rfl); (case ho => kernel_rfl); (case hn => (first | exact ln0 | exact ln1 | exact ln2 | exact ln3 | exact ln4 | exact ln5 | exact ln6 | exact ln7 | exact ln8 | exact ln9 | exact ln10 | exact ln11 | exact ln12 | exact ln13 | exact ln14)); (case hf => (repeat' (first | exact LEq.nil | ((first | with_reducible apply LEq.cons | apply LEq.cons); (case h => (conv => lhs; whnf); try exact rfl))))))
 | ((with_reducible apply OpR.and); (case hc => exact rfl); (case hx => exact rfl); (case hy => exact rfl))
 | exact OpR.r fun _ => rfl))
 | fail)
  all_goals (refine fin_b (.inr rfl) rfl ?_; simp [evEq, Bool.and_assoc])
theorem evEq_self (e : Ev) : evEq e e = true := by simp [evEq]
theorem requal_c (e : Ev) (hl : e.past.length ≤ 1000) : Cl cfg 24 [.t (evA e), .t (evA e)] [] (.t (.bool true)) [] := by
  have := requal2_c e e (by omega) (by omega)
  rwa [evEq_self] at this
end Go.Proofs.YtgbfedgghjcdcaaGreatDoor
