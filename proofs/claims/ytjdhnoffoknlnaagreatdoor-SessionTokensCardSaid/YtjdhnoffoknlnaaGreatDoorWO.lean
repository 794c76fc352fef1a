/- Law 52: the reference's Check and Few. No condition. -/
import Derived.Test.YtjdhnoffoknlnaaGreatDoorWN
namespace Go.Proofs.YtjdhnoffoknlnaaGreatDoor
set_option linter.unusedSimpArgs false
set_option linter.unusedVariables false
set_option linter.unusedSectionVars false
open Go.RowKit
set_option maxRecDepth 100000
set_option maxHeartbeats 4000000

def goR (n : Int) : List SAct → List SAct → Int × Int
  | _, [] => (0, -1)
  | p, a :: r => if rActB n a then (if brokenS p a = 0 then goR n (p ++ [a]) r else (brokenS p a, p.length)) else (0, p.length)
def rcheckS (n : Int) (l : List SAct) : Int × Int := if n < 1 ∨ 5 < n then (0, 0) else goR n [] l
theorem goR_cons (n : Int) (p : List SAct) (a : SAct) (r : List SAct) : goR n p (a :: r) = if rActB n a then (if brokenS p a = 0 then goR n (p ++ [a]) r else (brokenS p a, p.length)) else (0, p.length) := rfl
theorem formB_r {e : Ev} (h : formB e = true) : 0 ≤ e.r := by
  simp [formB, headOk, betB] at h
  omega
theorem rActB_r {n : Int} {b : SAct} (h : rActB n b = true) : 0 ≤ b.ev.r := by
  unfold rActB at h
  split at h
  · simp at h; exact formB_r h.1.2
  · simp at h; omega
theorem takesnoc {l : List SAct} {q : Nat} {a : SAct} (h : l[q]? = some a) : (actsE l).take (q + 1) = actsE (l.take q ++ [a]) := by
  rw [takeacts, List.take_add_one, h]; rfl
def few1 (a : SAct) : Bool := decide (a.cl.length ≤ 8) && decide (a.ev.past.length ≤ 8)
def fewActs (l : List SAct) : Bool := l.all few1 && decide (l.length ≤ 20)
theorem few_c (l : List SAct) (hl : l.length ≤ 140737488351232) : Cl cfg 8 [.t (actsA l)] [] (.t (.bool (fewActs l))) [] := by
  refine Cl.of_body rfl Tryz.func8 rfl rfl rfl ?_
  repeat' (first
     | (with_reducible apply EvK.seq)
     | (with_reducible apply EvK.block)
     | (with_reducible apply EvK.text)
     | (with_reducible apply EvO.nilT)
     | ((with_reducible apply EvO.u0); (case hx => ((with_reducible apply OpR.asg); (conv => lhs; whnf); try exact rfl)))
     | fail)
  apply EvK.loopV
  case ho => exact rfl
  case hp => exact rfl
  case hl => exact rfl
  case hs => repeat' (first | exact Slots.nil | (apply Slots.cons; (case hv => (conv => lhs; whnf); try exact rfl)))
  refine EvL.ind (fun q : Nat => [(3, .t (.int .i64 (q : Int)))]) (fun q => q ≤ l.length ∧ (l.take q).all few1 = true) (fun q => l.length - q) 0 rfl (by simp) (fun q hq => ?_)
  obtain ⟨h1, h2⟩ := hq
  rcases Nat.lt_or_ge q l.length with h3 | h3
  ·
    obtain ⟨n, hn⟩ := get_of_lt h3
    have hc := actsE_get hn
    have e1 := intsE_len n.cl
    have e2 := intsE_len n.ev.past
    repeat' (first
       | (with_reducible apply EvK.seq)
       | (with_reducible apply EvK.block)
       | (with_reducible apply EvK.text)
       | (with_reducible apply EvK.skip)
       | (with_reducible apply EvK.ret)
       | (with_reducible apply thenK_n)
       | (with_reducible apply thenK_r)
       | (with_reducible apply blockK_n)
       | (with_reducible apply blockK_r)
       | ((with_reducible apply EvK.cond_t); (case hc => exact rfl))
       | ((with_reducible apply EvK.cond_f); (case hc => exact rfl))
       | ((with_reducible apply EvO.spd_t); (case hp => first | assumption | omega))
       | ((with_reducible apply EvO.spd) <;> intro hq)
       | ((with_reducible apply EvO.spd_y) <;> intro hq)
       | (with_reducible apply EvO.nilT)
       | ((with_reducible apply EvO.gf); (case hW => exact rfl))
       | ((with_reducible apply EvO.gt0); (case hW => exact rfl); (case hx => first
          | ((with_reducible apply OpR.mv); (conv => lhs; whnf); try exact rfl)
          | ((with_reducible apply OpR.len); (case ha => exact rfl); (case hy => exact rfl); (case ht => exact rfl); (case hs => exact rfl); (case hn => first | exact List.length_map _ | exact rfl))
          | ((with_reducible apply OpR.ix); (case he => first | (with_reducible exact el0) | (with_reducible exact el1) | (with_reducible exact el2) | (with_reducible exact el3) | (with_reducible exact el4) | (with_reducible exact el5) | (with_reducible exact el6) | (with_reducible exact el7) | exact rfl); (case hx => exact rfl); (case hi => exact rfl); (case hc => assumption); (case hz => exact rfl))
          | exact OpR.r fun _ => rfl))
       | ((with_reducible apply EvO.u0); (case hx => first
          | ((with_reducible apply OpR.mv); (conv => lhs; whnf); try exact rfl)
          | ((with_reducible apply OpR.asg); (conv => lhs; whnf); try exact rfl)
          | ((with_reducible apply OpR.pk_t); (case hc => exact rfl); (case h => (conv => lhs; whnf); try exact rfl))
          | ((with_reducible apply OpR.pk_f); (case hc => exact rfl); (case h => (conv => lhs; whnf); try exact rfl))
          | ((with_reducible apply OpR.inc); (case hx => exact rfl); (case hy => exact rfl); (case h => omega))
          | ((with_reducible apply OpR.len); (case ha => exact rfl); (case hy => exact rfl); (case ht => exact rfl); (case hs => exact rfl); (case hn => first | exact List.length_map _ | exact rfl))
          | ((with_reducible apply OpR.ix); (case he => first | (with_reducible exact el0) | (with_reducible exact el1) | (with_reducible exact el2) | (with_reducible exact el3) | (with_reducible exact el4) | (with_reducible exact el5) | (with_reducible exact el6) | (with_reducible exact el7) | exact rfl); (case hx => exact rfl); (case hi => exact rfl); (case hc => assumption); (case hz => exact rfl))
          | exact OpR.r fun _ => rfl))
       | fail)
    all_goals first
      | (refine fin_b (.inr rfl) rfl ?_)
      | (refine ⟨q + 1, rfl, rfl, ⟨by omega, all_more h2 hn ?_⟩, by omega⟩)
    all_goals first
      | (rw [fewActs, all_bad hn (by simp [few1]; omega)]; rfl)
      | (simp [few1]; omega)
  ·
    have h4 := all_end h2 h3
    repeat' (first
       | (with_reducible apply EvK.seq)
       | (with_reducible apply EvK.text)
       | (with_reducible apply EvK.exit)
       | (with_reducible apply EvK.ret)
       | (with_reducible apply thenK_n)
       | (with_reducible apply thenK_e)
       | (with_reducible apply blockK_h)
       | ((with_reducible apply EvK.cond_f); (case hc => exact rfl))
       | ((with_reducible apply EvO.spd_f); (case hp => first | assumption | omega))
       | ((with_reducible apply EvO.spd) <;> intro hq)
       | (with_reducible apply EvO.nilT)
       | ((with_reducible apply EvO.u0); (case hx => first
          | ((with_reducible apply OpR.mv); (conv => lhs; whnf); try exact rfl)
          | ((with_reducible apply OpR.asg); (conv => lhs; whnf); try exact rfl)
          | ((with_reducible apply OpR.len); (case ha => exact rfl); (case hy => exact rfl); (case ht => exact rfl); (case hs => exact rfl); (case hn => first | exact List.length_map _ | exact rfl))
          | exact OpR.r fun _ => rfl))
       | fail)
    all_goals (refine fin_b (.inr rfl) rfl ?_; rw [fewActs, h4]; simp; omega)
end Go.Proofs.YtjdhnoffoknlnaaGreatDoor
