/- Law 52: the reference's functions on acts. No condition. -/
import Derived.Test.YtjdhnoffoknlnaaGreatDoorWH
import Derived.Test.YtjdhnoffoknlnaaGreatDoorWL
namespace Go.Proofs.YtjdhnoffoknlnaaGreatDoor
set_option linter.unusedSimpArgs false
set_option linter.unusedVariables false
set_option linter.unusedSectionVars false
open Go.RowKit
set_option maxRecDepth 100000
set_option maxHeartbeats 4000000

def rActB (n : Int) (x : SAct) : Bool := if x.wr then decide ((x.cl.length : Int) = 0) && formB x.ev && decide ((x.ev.past.length : Int) = n) else validB x.cl && decide ((x.cl.length : Int) = n) && decide (x.ev.r = 0) && decide (x.ev.n = 0) && decide (x.ev.t = 0) && decide ((x.ev.past.length : Int) = 0) && decide (x.ev.k = 0) && decide (x.ev.a = 0) && ((decide (x.ev.gk = 0) && (decide (x.ev.gi = 0) && (decide (x.ev.ge = 0) && true))) && (decide (x.ev.ga = 0) && true)) && decide (x.ev.to = 0) && decide (x.ev.pl = 0) && decide (x.ev.se = 0)
def rContB (a b : List Int) : Bool := validB a && validB b && decide (a.length = b.length) && (b.zip a).all le2
theorem rcont_c {a b : List Int} (ha : a.length ≤ 140737488351232) (hb : b.length ≤ 140737488351232) : Cl cfg 20 [.t (intsA a), .t (intsA b)] [] (.t (.bool (rContB a b))) [] := by
  refine Cl.of_body rfl Tryz.func20 rfl rfl rfl ?_
  by_cases hpre : validB a = true ∧ validB b = true ∧ a.length = b.length
  ·
    obtain ⟨hva, hvb, hab⟩ := hpre
    have h1 := rvalid_c ha
    have h2 := rvalid_c hb
    rw [hva] at h1
    rw [hvb] at h2
    repeat' (first
       | (with_reducible apply EvK.seq)
       | (with_reducible apply EvK.block)
       | (with_reducible apply EvK.text)
       | (with_reducible apply EvK.skip)
       | (with_reducible apply thenK_n)
       | ((with_reducible apply EvK.cond_f); (case hc => exact rfl))
       | ((with_reducible apply EvO.spn_yf); (case hp => first | assumption | omega))
       | (with_reducible apply EvO.nilT)
       | ((with_reducible apply EvO.gt0); (case hW => exact rfl); (case hx => first
          | ((with_reducible apply OpR.mv); (conv => lhs; whnf); try exact rfl)
          | ((with_reducible apply OpR.callF); (case hcal => exact rfl); (case hav => exact rfl); (case hx => exact rfl); (case hh => exact rfl); (case hm => exact rfl); (case hcl => exact h2); (case hr => exact rfl))
          | ((with_reducible apply OpR.len); (case ha => exact rfl); (case hy => exact rfl); (case ht => exact rfl); (case hs => exact rfl); (case hn => first | exact List.length_map _ | exact rfl))
          | exact OpR.r fun _ => rfl))
       | ((with_reducible apply EvO.u0); (case hx => first
          | ((with_reducible apply OpR.mv); (conv => lhs; whnf); try exact rfl)
          | ((with_reducible apply OpR.asg); (conv => lhs; whnf); try exact rfl)
          | ((with_reducible apply OpR.pk_f); (case hc => exact rfl); (case h => (conv => lhs; whnf); try exact rfl))
          | ((with_reducible apply OpR.callF); (case hcal => exact rfl); (case hav => exact rfl); (case hx => exact rfl); (case hh => exact rfl); (case hm => exact rfl); (case hcl => exact h1); (case hr => exact rfl))
          | exact OpR.r fun _ => rfl))
       | fail)
    apply EvK.loopV
    case ho => exact rfl
    case hp => exact rfl
    case hl => exact rfl
    case hs => repeat' (first | exact Slots.nil | (apply Slots.cons; (case hv => (conv => lhs; whnf); try exact rfl)))
    refine EvL.ind (fun q : Nat => [(5, .t (.int .i64 (q : Int)))]) (fun q => q ≤ a.length ∧ ((b.zip a).take q).all le2 = true) (fun q => a.length - q) 0 rfl (by simp) (fun q hq => ?_)
    obtain ⟨h3, h4⟩ := hq
    rcases Nat.lt_or_ge q a.length with h5 | h5
    ·
      obtain ⟨n, hn⟩ := get_of_lt h5
      obtain ⟨m, hm⟩ := get_of_lt (xs := b) (k := q) (by omega)
      have hc := intsE_get hn
      have hd := intsE_get hm
      have hz := zip_get hm hn
      repeat' (first
         | (with_reducible apply EvK.seq)
         | (with_reducible apply EvK.block)
         | (with_reducible apply EvK.text)
         | (with_reducible apply EvK.drawn)
         | (with_reducible apply EvK.skip)
         | (with_reducible apply EvK.ret)
         | (with_reducible apply thenK_n)
         | (with_reducible apply thenK_r)
         | (with_reducible apply blockK_n)
         | (with_reducible apply blockK_r)
         | ((with_reducible apply EvK.cond_t); (case hc => exact rfl))
         | ((with_reducible apply EvK.cond_f); (case hc => exact rfl))
         | ((with_reducible apply EvO.spd_t); (case hp => first | assumption | omega))
         | ((with_reducible apply EvO.spd) <;> intro hq)
         | (with_reducible apply EvO.nilT)
         | ((with_reducible apply EvO.u0); (case hx => first
            | ((with_reducible apply OpR.mv); (conv => lhs; whnf); try exact rfl)
            | ((with_reducible apply OpR.asg); (conv => lhs; whnf); try exact rfl)
            | ((with_reducible apply OpR.inc); (case hx => exact rfl); (case hy => exact rfl); (case h => omega))
            | ((with_reducible apply OpR.len); (case ha => exact rfl); (case hy => exact rfl); (case ht => exact rfl); (case hs => exact rfl); (case hn => first | exact List.length_map _ | exact rfl))
            | ((with_reducible apply OpR.ix); (case he => first | (with_reducible exact el0) | (with_reducible exact el1) | (with_reducible exact el2) | (with_reducible exact el3) | (with_reducible exact el4) | (with_reducible exact el5) | (with_reducible exact el6) | (with_reducible exact el7) | exact rfl); (case hx => exact rfl); (case hi => exact rfl); (case hc => assumption); (case hz => exact rfl))
            | exact OpR.r fun _ => rfl))
         | fail)
      all_goals first
        | (refine fin_b (.inr rfl) rfl ?_)
        | (refine ⟨q + 1, rfl, rfl, ⟨by omega, all_more h4 hz ?_⟩, by omega⟩)
      all_goals first
        | (rw [rContB, all_bad hz (by simp [le2]; omega)]; simp; done)
        | (simp [le2]; omega)
    ·
      have h6 := all_end h4 (by simp; omega)
      repeat' (first
         | (with_reducible apply EvK.seq)
         | (with_reducible apply EvK.text)
         | (with_reducible apply EvK.exit)
         | (with_reducible apply EvK.ret)
         | (with_reducible apply thenK_n)
         | (with_reducible apply thenK_e)
         | (with_reducible apply blockK_h)
         | ((with_reducible apply EvK.cond_f); (case hc => exact rfl))
         | ((with_reducible apply EvO.spd_f); (case hp => first | assumption | omega))
         | (with_reducible apply EvO.nilT)
         | ((with_reducible apply EvO.u0); (case hx => first
            | ((with_reducible apply OpR.mv); (conv => lhs; whnf); try exact rfl)
            | ((with_reducible apply OpR.asg); (conv => lhs; whnf); try exact rfl)
            | ((with_reducible apply OpR.len); (case ha => exact rfl); (case hy => exact rfl); (case ht => exact rfl); (case hs => exact rfl); (case hn => first | exact List.length_map _ | exact rfl))
            | exact OpR.r fun _ => rfl))
         | fail)
      all_goals (refine fin_b (.inr rfl) rfl ?_; rw [rContB, h6, hva, hvb, decide_eq_true hab]; rfl)
  ·
    repeat' (first
       | (with_reducible apply EvK.seq)
       | (with_reducible apply EvK.block)
       | (with_reducible apply EvK.text)
       | (with_reducible apply EvK.skip)
       | (with_reducible apply EvK.ret)
       | (with_reducible apply thenK_n)
       | (with_reducible apply thenK_r)
       | ((with_reducible apply EvK.cond_t); (case hc => exact rfl))
       | ((with_reducible apply EvK.cond_f); (case hc => exact rfl))
       | ((with_reducible apply EvO.spb (b := validB _)) <;> intro hq)
       | ((with_reducible apply EvO.spn_y) <;> intro hq)
       | ((with_reducible apply EvO.spb_y (b := validB _)) <;> intro hq)
       | (with_reducible apply EvO.nilT)
       | ((with_reducible apply EvO.gf); (case hW => exact rfl))
       | ((with_reducible apply EvO.gt0); (case hW => exact rfl); (case hx => first
          | ((with_reducible apply OpR.mv); (conv => lhs; whnf); try exact rfl)
          | ((with_reducible apply OpR.callF); (case hcal => exact rfl); (case hav => exact rfl); (case hx => exact rfl); (case hh => exact rfl); (case hm => exact rfl); (case hcl => exact rvalid_c hb); (case hr => exact rfl))
          | ((with_reducible apply OpR.len); (case ha => exact rfl); (case hy => exact rfl); (case ht => exact rfl); (case hs => exact rfl); (case hn => first | exact List.length_map _ | exact rfl))
          | exact OpR.r fun _ => rfl))
       | ((with_reducible apply EvO.u0); (case hx => first
          | ((with_reducible apply OpR.mv); (conv => lhs; whnf); try exact rfl)
          | ((with_reducible apply OpR.asg); (conv => lhs; whnf); try exact rfl)
          | ((with_reducible apply OpR.pk_t); (case hc => exact rfl); (case h => (conv => lhs; whnf); try exact rfl))
          | ((with_reducible apply OpR.pk_f); (case hc => exact rfl); (case h => (conv => lhs; whnf); try exact rfl))
          | ((with_reducible apply OpR.callF); (case hcal => exact rfl); (case hav => exact rfl); (case hx => exact rfl); (case hh => exact rfl); (case hm => exact rfl); (case hcl => exact rvalid_c ha); (case hr => exact rfl))
          | exact OpR.r fun _ => rfl))
       | fail)
    all_goals first
      | (refine fin_b (.inr rfl) rfl ?_; simp [rContB, *]; done)
      | (refine fin_b (.inr rfl) rfl ?_; simp [rContB, *]; omega)
      | (exfalso; apply hpre; refine ⟨by assumption, by assumption, by omega⟩)
end Go.Proofs.YtjdhnoffoknlnaaGreatDoor
