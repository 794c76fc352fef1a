/- Law 52: clocks compared; sessions' clocks. No condition. -/
import Derived.Test.YtgbfedgghjcdcaaGreatDoorWA
namespace Go.Proofs.YtgbfedgghjcdcaaGreatDoor
set_option linter.unusedSimpArgs false
set_option linter.unusedVariables false
set_option linter.unusedSectionVars false
open Go.RowKit
set_option maxRecDepth 100000

theorem al1_head {l : List (List Int)} {c0 : List Int} (h0 : l[0]? = some c0) : (l.headD []).length = c0.length := by rw [headD_of h0]
theorem alike_c {l : List (List Int)} (hl : l.length ≤ 140737488351232) (hc : ∀ c ∈ l, c.length ≤ 140737488351232) : Cl cfg 138 [.t (clksA l)] [] (.t (.bool (alikeB l))) [] := by
  refine Cl.of_body rfl Tryz.func138 rfl rfl rfl ?_
  repeat' (first
     | (with_reducible apply EvK.seq)
     | (with_reducible apply EvK.block)
     | ((with_reducible apply EvK.text); (try case hm => exact rfl))
     | (with_reducible apply EvO.nilT)
     | ((with_reducible apply EvO.u0); (case hx => first
        | ((with_reducible apply OpR.mv); (conv => lhs; whnf); try exact rfl)
        | ((with_reducible apply OpR.asg); (conv => lhs; whnf); try exact rfl)
        | ((with_reducible apply OpR.len); (case ha => exact rfl); (case hy => exact rfl); (case ht => exact rfl); (case hs => exact rfl); (case hn => first | exact List.length_map _ | exact rfl))))
     | fail)
  apply EvK.loopV
  case ho => exact rfl
  case hp => exact rfl
  case hl => exact rfl
  case hs => repeat' (first | exact Slots.nil | (apply Slots.cons; (case hv => (conv => lhs; whnf); try exact rfl)))
  refine EvL.ind (fun q : Nat => [(7, .t (.int .i64 (q : Int)))]) (fun q => q ≤ l.length ∧ (l.take q).all (al1 (l.headD []).length) = true) (fun q => l.length - q) 0 rfl (by simp) (fun q hq => ?_)
  obtain ⟨h1, h2⟩ := hq
  rcases Nat.lt_or_ge q l.length with h3 | h3
  ·
    obtain ⟨c, hn⟩ := get_of_lt h3
    obtain ⟨c0, hn0⟩ := get_of_lt (xs := l) (k := 0) (by omega)
    have hg := clksE_get hn
    have hg0 := clksE_get hn0
    have hlc := hc c (List.mem_of_getElem? hn)
    have hd := al1_head hn0
    repeat' (first
       | (with_reducible apply EvK.seq)
       | (with_reducible apply EvK.block)
       | ((with_reducible apply EvK.text); (try case hm => exact rfl))
       | (with_reducible apply EvK.skip)
       | (with_reducible apply EvK.ret)
       | (with_reducible apply thenK_n)
       | (with_reducible apply thenK_r)
       | (with_reducible apply blockK_n)
       | (with_reducible apply blockK_r)
       | ((with_reducible apply EvK.cond_t); (case hc => exact rfl))
       | ((with_reducible apply EvK.cond_f); (case hc => exact rfl))
       | ((with_reducible apply EvO.spd_t); (case hp => first | assumption | omega))
       | ((with_reducible apply EvO.spb (b := validB _)) <;> intro hq)
       | ((with_reducible apply EvO.spn_y) <;> intro hq)
       | (with_reducible apply EvO.nilT)
       | ((with_reducible apply EvO.gf); (case hW => exact rfl))
       | ((with_reducible apply EvO.gt0); (case hW => exact rfl); (case hx => first
          | ((with_reducible apply OpR.mv); (conv => lhs; whnf); try exact rfl)
          | ((with_reducible apply OpR.len); (case ha => exact rfl); (case hy => exact rfl); (case ht => exact rfl); (case hs => exact rfl); (case hn => first | exact List.length_map _ | exact rfl))
          | ((with_reducible apply OpR.ix); (case he => first | (with_reducible exact el0) | (with_reducible exact el1) | (with_reducible exact el2) | (with_reducible exact el3) | (with_reducible exact el4) | (with_reducible exact el5) | (with_reducible exact el6) | (with_reducible exact el7) | exact rfl); (case hx => exact rfl); (case hi => exact rfl); (case hc => assumption); (case hz => exact rfl))
          | exact OpR.r fun _ => rfl))
       | ((with_reducible apply EvO.u0); (case hx => first
          | ((with_reducible apply OpR.mv); (conv => lhs; whnf); try exact rfl)
          | ((with_reducible apply OpR.asg); (conv => lhs; whnf); try exact rfl)
          | ((with_reducible apply OpR.pk_t); (case hc => exact rfl); (case h => (conv => lhs; whnf); try exact rfl))
          | ((with_reducible apply OpR.pk_f); (case hc => exact rfl); (case h => (conv => lhs; whnf); try exact rfl))
          | ((with_reducible apply OpR.callF); (case hcal => exact rfl); (case hav => exact rfl); (case hx => exact rfl); (case hh => exact rfl); (case hm => exact rfl); (case hcl => exact valid_c hlc); (case hr => exact rfl))
          | ((with_reducible apply OpR.inc); (case hx => exact rfl); (case hy => exact rfl); (case h => omega))
          | ((with_reducible apply OpR.ix); (case he => first | (with_reducible exact el0) | (with_reducible exact el1) | (with_reducible exact el2) | (with_reducible exact el3) | (with_reducible exact el4) | (with_reducible exact el5) | (with_reducible exact el6) | (with_reducible exact el7) | exact rfl); (case hx => exact rfl); (case hi => exact rfl); (case hc => assumption); (case hz => exact rfl))
          | exact OpR.r fun _ => rfl))
       | fail)
    all_goals first
      | (refine fin_b (.inr rfl) rfl ?_)
      | (refine ⟨q + 1, rfl, rfl, ⟨by omega, all_more h2 hn ?_⟩, by omega⟩)
    all_goals first
      | (rw [alikeB, all_bad hn (by rw [al1, hd]; simp [*]; try omega)]; rfl)
      | (rw [al1, hd]; simp [*]; omega)
  ·
    have h4 := all_end h2 h3
    repeat' (first
       | (with_reducible apply EvK.seq)
       | ((with_reducible apply EvK.text); (try case hm => exact rfl))
       | (with_reducible apply EvK.exit)
       | (with_reducible apply EvK.ret)
       | (with_reducible apply thenK_n)
       | (with_reducible apply thenK_e)
       | (with_reducible apply blockK_h)
       | ((with_reducible apply EvK.cond_f); (case hc => exact rfl))
       | ((with_reducible apply EvO.spd_f); (case hp => first | assumption | omega))
       | ((with_reducible apply EvO.spd) <;> intro hq)
       | (with_reducible apply EvO.nilT)
       | ((with_reducible apply EvO.u0); (case hx => first
          | ((with_reducible apply OpR.mv); (conv => lhs; whnf); try exact rfl)
          | ((with_reducible apply OpR.asg); (conv => lhs; whnf); try exact rfl)
          | ((with_reducible apply OpR.len); (case ha => exact rfl); (case hy => exact rfl); (case ht => exact rfl); (case hs => exact rfl); (case hn => first | exact List.length_map _ | exact rfl))
          | exact OpR.r fun _ => rfl))
       | fail)
    all_goals (refine fin_b (.inr rfl) rfl ?_; rw [alikeB, h4]; simp; first | done | omega | (rw [← List.length_eq_zero_iff]; omega))
theorem compare_c {a b : List Int} (ha : a.length ≤ 140737488351232) (hb : b.length ≤ 140737488351232) : Cl cfg 135 [.t (intsA a), .t (intsA b)] [] (.tup [.t (.int .i64 (compareS a b).1), .t (.int .i64 (compareS a b).2)]) [] := by
  refine Cl.of_body rfl Tryz.func135 rfl rfl rfl ?_
  have h2 := alike_c (l := [a, b]) (by simp) (by simp; omega)
  cases hab : alikeB [a, b] with
  | false =>
    rw [hab] at h2
    repeat' (first
       | (with_reducible apply EvK.seq)
       | ((with_reducible apply EvK.text); (try case hm => exact rfl))
       | (with_reducible apply EvK.ret)
       | (with_reducible apply thenK_r)
       | ((with_reducible apply EvK.cond_t); (case hc => exact rfl))
       | (with_reducible apply EvO.nilT)
       | ((with_reducible apply EvO.u0); (case hx => first
          | ((with_reducible apply OpR.mv); (conv => lhs; whnf); try exact rfl)
          | ((with_reducible apply OpR.asg); (conv => lhs; whnf); try exact rfl)
          | ((with_reducible apply OpR.callF); (case hcal => exact rfl); (case hav => exact rfl); (case hx => exact rfl); (case hh => exact rfl); (case hm => exact rfl); (case hcl => exact h2); (case hr => exact rfl))
          | exact OpR.r fun _ => rfl))
       | fail)
    all_goals (refine fin_ii (.inr rfl) rfl ?_; simp [compareS, hab])
  | true =>
    rw [hab] at h2
    have hlen := alike_len hab
    repeat' (first
       | (with_reducible apply EvK.seq)
       | (with_reducible apply EvK.block)
       | ((with_reducible apply EvK.text); (try case hm => exact rfl))
       | (with_reducible apply EvK.skip)
       | (with_reducible apply EvK.ret)
       | (with_reducible apply thenK_n)
       | (with_reducible apply thenK_r)
       | (with_reducible apply blockK_n)
       | (with_reducible apply blockK_r)
       | ((with_reducible apply EvK.cond_t); (case hc => exact rfl))
       | ((with_reducible apply EvK.cond_f); (case hc => exact rfl))
       | ((with_reducible apply EvO.spb (b := insideB _ _)) <;> intro hq)
       | (with_reducible apply EvO.nilT)
       | ((with_reducible apply EvO.gf); (case hW => exact rfl))
       | ((with_reducible apply EvO.gt0); (case hW => exact rfl); (case hx => ((with_reducible apply OpR.mv); (conv => lhs; whnf); try exact rfl)))
       | ((with_reducible apply EvO.u0); (case hx => first
          | ((with_reducible apply OpR.mv); (conv => lhs; whnf); try exact rfl)
          | ((with_reducible apply OpR.asg); (conv => lhs; whnf); try exact rfl)
          | ((with_reducible apply OpR.pk_t); (case hc => exact rfl); (case h => (conv => lhs; whnf); try exact rfl))
          | ((with_reducible apply OpR.pk_f); (case hc => exact rfl); (case h => (conv => lhs; whnf); try exact rfl))
          | ((with_reducible apply OpR.callF); (case hcal => exact rfl); (case hav => exact rfl); (case hx => exact rfl); (case hh => exact rfl); (case hm => exact rfl); (case hcl => exact h2); (case hr => exact rfl))
          | ((with_reducible apply OpR.callF); (case hcal => exact rfl); (case hav => exact rfl); (case hx => exact rfl); (case hh => exact rfl); (case hm => exact rfl); (case hcl => exact inside_c ha hlen); (case hr => exact rfl))
          | ((with_reducible apply OpR.callF); (case hcal => exact rfl); (case hav => exact rfl); (case hx => exact rfl); (case hh => exact rfl); (case hm => exact rfl); (case hcl => exact inside_c hb hlen.symm); (case hr => exact rfl))
          | exact OpR.r fun _ => rfl))
       | fail)
    all_goals (refine fin_ii (.inr rfl) rfl ?_; simp [compareS, *])
theorem has_c {a : List Int} {r n : Int} (ha : a.length ≤ 140737488351232) : Cl cfg 92 [.t (intsA a), .t (.agg [.int .i64 r, .int .i64 n])] [] (.t (.bool (hasS a r n))) [] := by
  refine Cl.of_body rfl Tryz.func92 rfl rfl rfl ?_
  by_cases hr : 0 ≤ r ∧ r < a.length
  ·
    obtain ⟨x, hx⟩ := get_of_lt (xs := a) (k := r.toNat) (by omega)
    have hc := intsE_get hx
    have hd := getD_get hx
    obtain ⟨h0, h1⟩ := hr
    repeat' (first
       | (with_reducible apply EvK.seq)
       | ((with_reducible apply EvK.text); (try case hm => exact rfl))
       | ((with_reducible apply EvK.drawn); (case hm => exact rfl))
       | (with_reducible apply EvK.ret)
       | ((with_reducible apply EvO.spb (b := validB _)) <;> intro hq)
       | ((with_reducible apply EvO.spd_yt); (case hp => first | assumption | omega))
       | ((with_reducible apply EvO.spd_y) <;> intro hq)
       | (with_reducible apply EvO.nilT)
       | ((with_reducible apply EvO.gf); (case hW => exact rfl))
       | ((with_reducible apply EvO.gt0); (case hW => exact rfl); (case hx => first
          | ((with_reducible apply OpR.mv); (conv => lhs; whnf); try exact rfl)
          | ((with_reducible apply OpR.len); (case ha => exact rfl); (case hy => exact rfl); (case ht => exact rfl); (case hs => exact rfl); (case hn => first | exact List.length_map _ | exact rfl))
          | ((with_reducible apply OpR.ixm); (case he => first | (with_reducible exact el0) | (with_reducible exact el1) | (with_reducible exact el2) | (with_reducible exact el3) | (with_reducible exact el4) | (with_reducible exact el5) | (with_reducible exact el6) | (with_reducible exact el7) | exact rfl); (case hx => exact rfl); (case hi => exact rfl); (case h0 => omega); (case hc => assumption); (case hz => exact rfl))
          | ((with_reducible apply OpR.fal); (case hy => exact rfl); (case ho => exact rfl); (case hn => (conv => lhs; whnf); try exact rfl))
          | exact OpR.r fun _ => rfl))
       | ((with_reducible apply EvO.u0); (case hx => first
          | ((with_reducible apply OpR.mv); (conv => lhs; whnf); try exact rfl)
          | ((with_reducible apply OpR.asg); (conv => lhs; whnf); try exact rfl)
          | ((with_reducible apply OpR.pk_t); (case hc => exact rfl); (case h => (conv => lhs; whnf); try exact rfl))
          | ((with_reducible apply OpR.pk_f); (case hc => exact rfl); (case h => (conv => lhs; whnf); try exact rfl))
          | ((with_reducible apply OpR.callF); (case hcal => exact rfl); (case hav => exact rfl); (case hx => exact rfl); (case hh => exact rfl); (case hm => exact rfl); (case hcl => exact valid_c ha); (case hr => exact rfl))
          | ((with_reducible apply OpR.bxt); (case hs => exact fun _ => rfl); (case hy => exact rfl); (case ho => kernel_rfl); (case hn => (first | exact ln0 | exact ln1 | exact ln2 | exact ln3 | exact ln4 | exact ln5 | exact ln6 | exact ln7 | exact ln8 | exact ln9 | exact ln10 | exact ln11 | exact ln12 | exact ln13 | exact ln14)); (case hf => (repeat' (first | exact LEq.nil | ((with_reducible apply LEq.cons); (case h => (conv => lhs; whnf); try exact rfl)) | (apply LEq.cons; (case h => (conv => lhs; whnf); try exact rfl))))))))
       | fail)
    all_goals (refine fin_b (.inr rfl) rfl ?_; rw [hasS, hd]; simp [*]; try omega)
  ·
    repeat' (first
       | (with_reducible apply EvK.seq)
       | ((with_reducible apply EvK.text); (try case hm => exact rfl))
       | ((with_reducible apply EvK.drawn); (case hm => exact rfl))
       | (with_reducible apply EvK.ret)
       | ((with_reducible apply EvO.spb (b := validB _)) <;> intro hq)
       | ((with_reducible apply EvO.spd_yf); (case hp => first | assumption | omega))
       | ((with_reducible apply EvO.spd_y) <;> intro hq)
       | (with_reducible apply EvO.nilT)
       | ((with_reducible apply EvO.gf); (case hW => exact rfl))
       | ((with_reducible apply EvO.gt0); (case hW => exact rfl); (case hx => first
          | ((with_reducible apply OpR.mv); (conv => lhs; whnf); try exact rfl)
          | ((with_reducible apply OpR.len); (case ha => exact rfl); (case hy => exact rfl); (case ht => exact rfl); (case hs => exact rfl); (case hn => first | exact List.length_map _ | exact rfl))
          | ((with_reducible apply OpR.fal); (case hy => exact rfl); (case ho => exact rfl); (case hn => (conv => lhs; whnf); try exact rfl))
          | exact OpR.r fun _ => rfl))
       | ((with_reducible apply EvO.u0); (case hx => first
          | ((with_reducible apply OpR.mv); (conv => lhs; whnf); try exact rfl)
          | ((with_reducible apply OpR.asg); (conv => lhs; whnf); try exact rfl)
          | ((with_reducible apply OpR.pk_t); (case hc => exact rfl); (case h => (conv => lhs; whnf); try exact rfl))
          | ((with_reducible apply OpR.pk_f); (case hc => exact rfl); (case h => (conv => lhs; whnf); try exact rfl))
          | ((with_reducible apply OpR.callF); (case hcal => exact rfl); (case hav => exact rfl); (case hx => exact rfl); (case hh => exact rfl); (case hm => exact rfl); (case hcl => exact valid_c ha); (case hr => exact rfl))
          | ((with_reducible apply OpR.bxt); (case hs => exact fun _ => rfl); (case hy => exact rfl); (case ho => kernel_rfl); (case hn => (first | exact ln0 | exact ln1 | exact ln2 | exact ln3 | exact ln4 | exact ln5 | exact ln6 | exact ln7 | exact ln8 | exact ln9 | exact ln10 | exact ln11 | exact ln12 | exact ln13 | exact ln14)); (case hf => (repeat' (first | exact LEq.nil | ((with_reducible apply LEq.cons); (case h => (conv => lhs; whnf); try exact rfl)) | (apply LEq.cons; (case h => (conv => lhs; whnf); try exact rfl))))))))
       | fail)
    all_goals (refine fin_b (.inr rfl) rfl ?_; simp [hasS, *]; try omega)
end Go.Proofs.YtgbfedgghjcdcaaGreatDoor
