/- Law 32: events before others, clocks that contain others. No condition. -/
import Derived.Test.YtgbfedgghjcdcaaGreatDoorVY
import Derived.Test.YtgbfedgghjcdcaaGreatDoorWT
import Derived.Test.YtgbfedgghjcdcaaGreatDoorWB
import Derived.Test.YtgbfedgghjcdcaaGreatDoorWF
import Derived.Test.YtgbfedgghjcdcaaGreatDoorWH
import Derived.Test.YtgbfedgghjcdcaaGreatDoorSpecCl
namespace Go.Proofs.YtgbfedgghjcdcaaGreatDoor
set_option linter.unusedSimpArgs false
set_option linter.unusedVariables false
set_option linter.unusedSectionVars false
open Go.RowKit
set_option maxRecDepth 100000
set_option maxHeartbeats 8000000

theorem evA_cells (e : Ev) : evA e = .agg [.int .i64 e.r, .int .i64 e.n, .int .i64 e.t, intsA e.past, .int .i64 e.k, .int .i64 e.a, .int .i64 e.gk, .int .i64 e.gi, .int .i64 e.ge, .int .i64 e.ga, .int .i64 e.to, .int .i64 e.pl, .int .i64 e.se] := rfl
theorem name_c (e : Ev) : Cl cfg 59 [.t (evA e)] [] (.t (.agg [.int .i64 e.r, .int .i64 e.n])) [] := by
  rw [evA_cells]
  refine Cl.of_body rfl Tryz.func59 rfl rfl rfl ?_
  repeat' (first
     | (with_reducible apply EvK.seq)
     | ((with_reducible apply EvK.text); (try case hm => exact rfl))
     | (with_reducible apply EvK.ret)
     | (with_reducible apply EvO.nilT)
     | ((with_reducible apply EvO.u0); (case hx => first
        | ((with_reducible apply OpR.fal); (case hy => exact rfl); (case ho => exact rfl); (case hn => (conv => lhs; whnf); try exact rfl))
        | ((with_reducible apply OpR.al); (case hs => exact fun _ => rfl); (case hz => exact rfl); (case hc => (repeat' (first | exact LEq.nil | ((with_reducible apply LEq.cons); (case h => (conv => lhs; whnf); try exact rfl)) | (apply LEq.cons; (case h => (conv => lhs; whnf); try exact rfl))))); (case hn => (first | exact ln0 | exact ln1 | exact ln2 | exact ln3 | exact ln4 | exact ln5 | exact ln6 | exact ln7 | exact ln8 | exact ln9 | exact ln10 | exact ln11 | exact ln12 | exact ln13 | exact ln14)); (case hf => (repeat' (first | exact LEq.nil | ((with_reducible apply LEq.cons); (case h => (conv => lhs; whnf); try exact rfl)) | (apply LEq.cons; (case h => (conv => lhs; whnf); try exact rfl))))))
        | ((with_reducible apply OpR.bxt); (case hs => exact fun _ => rfl); (case hy => exact rfl); (case ho => kernel_rfl); (case hn => (first | exact ln0 | exact ln1 | exact ln2 | exact ln3 | exact ln4 | exact ln5 | exact ln6 | exact ln7 | exact ln8 | exact ln9 | exact ln10 | exact ln11 | exact ln12 | exact ln13 | exact ln14)); (case hf => (repeat' (first | exact LEq.nil | ((with_reducible apply LEq.cons); (case h => (conv => lhs; whnf); try exact rfl)) | (apply LEq.cons; (case h => (conv => lhs; whnf); try exact rfl))))))
        | ((with_reducible apply OpR.stw); (case hs => exact fun _ => rfl); (case ha => exact rfl); (case hy => exact rfl); (case ht => first | (with_reducible exact sz0) | (with_reducible exact sz1) | (with_reducible exact sz2) | (with_reducible exact sz3) | (with_reducible exact sz4) | (with_reducible exact sz5) | (with_reducible exact sz6) | (with_reducible exact sz7) | (with_reducible exact sz8) | (with_reducible exact sz9) | exact rfl); (case ho => kernel_rfl); (case hl => kernel_rfl); (case hb => exact rfl); (case hc => kernel_rfl); (case hf => (repeat' (first | exact LEq.nil | ((with_reducible apply LEq.cons); (case h => (conv => lhs; whnf); try exact rfl)) | (apply LEq.cons; (case h => (conv => lhs; whnf); try exact rfl))))))
        | exact OpR.r fun _ => rfl))
     | fail)
  exact ⟨.inr rfl, rfl⟩
theorem contained_c {a b : List Int} (ha : a.length ≤ 140737488351232) (hb : b.length ≤ 140737488351232) : Cl cfg 83 [.t (intsA a), .t (intsA b)] [] (.t (.bool (alikeB [a, b] && insideB a b))) [] := by
  have hc := compare_c ha hb
  refine Cl.of_body rfl Tryz.func83 rfl rfl rfl ?_
  cases h1 : alikeB [a, b] with
  | false =>
    have e : compareS a b = (0, 1) := by unfold compareS; rw [h1]; rfl
    rw [e] at hc
    repeat' (first
       | (with_reducible apply EvK.seq)
       | ((with_reducible apply EvK.text); (try case hm => exact rfl))
       | (with_reducible apply EvK.ret)
       | ((with_reducible apply EvO.spd_f); (case hp => first | assumption | omega))
       | (with_reducible apply EvO.nilT)
       | ((with_reducible apply EvO.gf); (case hW => exact rfl))
       | ((with_reducible apply EvO.u0); (case hx => first
          | ((with_reducible apply OpR.mv); (conv => lhs; whnf); try exact rfl)
          | ((with_reducible apply OpR.asg); (conv => lhs; whnf); try exact rfl)
          | ((with_reducible apply OpR.pk_f); (case hc => exact rfl); (case h => (conv => lhs; whnf); try exact rfl))
          | ((with_reducible apply OpR.callF); (case hcal => exact rfl); (case hav => exact rfl); (case hx => exact rfl); (case hh => exact rfl); (case hm => exact rfl); (case hcl => exact hc); (case hr => exact rfl))
          | exact OpR.r fun _ => rfl))
       | fail)
    exact ⟨.inr rfl, rfl⟩
  | true =>
    cases h2 : insideB a b with
    | false =>
      cases h3 : insideB b a with
      | false =>
        have e : compareS a b = (3, 0) := by unfold compareS; rw [h1, h2, h3]; rfl
        rw [e] at hc
        repeat' (first
           | (with_reducible apply EvK.seq)
           | ((with_reducible apply EvK.text); (try case hm => exact rfl))
           | (with_reducible apply EvK.ret)
           | ((with_reducible apply EvO.spd_t); (case hp => first | assumption | omega))
           | ((with_reducible apply EvO.spd_yf); (case hp => first | assumption | omega))
           | (with_reducible apply EvO.nilT)
           | ((with_reducible apply EvO.gt0); (case hW => exact rfl); (case hx => first
              | ((with_reducible apply OpR.mv); (conv => lhs; whnf); try exact rfl)
              | ((with_reducible apply OpR.pk_f); (case hc => exact rfl); (case h => (conv => lhs; whnf); try exact rfl))
              | exact OpR.r fun _ => rfl))
           | ((with_reducible apply EvO.u0); (case hx => first
              | ((with_reducible apply OpR.mv); (conv => lhs; whnf); try exact rfl)
              | ((with_reducible apply OpR.asg); (conv => lhs; whnf); try exact rfl)
              | ((with_reducible apply OpR.pk_t); (case hc => exact rfl); (case h => (conv => lhs; whnf); try exact rfl))
              | ((with_reducible apply OpR.callF); (case hcal => exact rfl); (case hav => exact rfl); (case hx => exact rfl); (case hh => exact rfl); (case hm => exact rfl); (case hcl => exact hc); (case hr => exact rfl))
              | exact OpR.r fun _ => rfl))
           | fail)
        exact ⟨.inr rfl, rfl⟩
      | true =>
        have e : compareS a b = (2, 0) := by unfold compareS; rw [h1, h2, h3]; rfl
        rw [e] at hc
        repeat' (first
           | (with_reducible apply EvK.seq)
           | ((with_reducible apply EvK.text); (try case hm => exact rfl))
           | (with_reducible apply EvK.ret)
           | ((with_reducible apply EvO.spd_t); (case hp => first | assumption | omega))
           | ((with_reducible apply EvO.spd_yf); (case hp => first | assumption | omega))
           | (with_reducible apply EvO.nilT)
           | ((with_reducible apply EvO.gt0); (case hW => exact rfl); (case hx => first
              | ((with_reducible apply OpR.mv); (conv => lhs; whnf); try exact rfl)
              | ((with_reducible apply OpR.pk_f); (case hc => exact rfl); (case h => (conv => lhs; whnf); try exact rfl))
              | exact OpR.r fun _ => rfl))
           | ((with_reducible apply EvO.u0); (case hx => first
              | ((with_reducible apply OpR.mv); (conv => lhs; whnf); try exact rfl)
              | ((with_reducible apply OpR.asg); (conv => lhs; whnf); try exact rfl)
              | ((with_reducible apply OpR.pk_t); (case hc => exact rfl); (case h => (conv => lhs; whnf); try exact rfl))
              | ((with_reducible apply OpR.callF); (case hcal => exact rfl); (case hav => exact rfl); (case hx => exact rfl); (case hh => exact rfl); (case hm => exact rfl); (case hcl => exact hc); (case hr => exact rfl))
              | exact OpR.r fun _ => rfl))
           | fail)
        exact ⟨.inr rfl, rfl⟩
    | true =>
      cases h3 : insideB b a with
      | false =>
        have e : compareS a b = (1, 0) := by unfold compareS; rw [h1, h2, h3]; rfl
        rw [e] at hc
        repeat' (first
           | (with_reducible apply EvK.seq)
           | ((with_reducible apply EvK.text); (try case hm => exact rfl))
           | (with_reducible apply EvK.ret)
           | ((with_reducible apply EvO.spd_t); (case hp => first | assumption | omega))
           | ((with_reducible apply EvO.spd_yt); (case hp => first | assumption | omega))
           | ((with_reducible apply EvO.spd_yf); (case hp => first | assumption | omega))
           | (with_reducible apply EvO.nilT)
           | ((with_reducible apply EvO.gt0); (case hW => exact rfl); (case hx => first
              | ((with_reducible apply OpR.mv); (conv => lhs; whnf); try exact rfl)
              | ((with_reducible apply OpR.pk_f); (case hc => exact rfl); (case h => (conv => lhs; whnf); try exact rfl))
              | exact OpR.r fun _ => rfl))
           | ((with_reducible apply EvO.u0); (case hx => first
              | ((with_reducible apply OpR.mv); (conv => lhs; whnf); try exact rfl)
              | ((with_reducible apply OpR.asg); (conv => lhs; whnf); try exact rfl)
              | ((with_reducible apply OpR.pk_t); (case hc => exact rfl); (case h => (conv => lhs; whnf); try exact rfl))
              | ((with_reducible apply OpR.callF); (case hcal => exact rfl); (case hav => exact rfl); (case hx => exact rfl); (case hh => exact rfl); (case hm => exact rfl); (case hcl => exact hc); (case hr => exact rfl))
              | exact OpR.r fun _ => rfl))
           | fail)
        exact ⟨.inr rfl, rfl⟩
      | true =>
        have e : compareS a b = (0, 0) := by unfold compareS; rw [h1, h2, h3]; rfl
        rw [e] at hc
        repeat' (first
           | (with_reducible apply EvK.seq)
           | ((with_reducible apply EvK.text); (try case hm => exact rfl))
           | (with_reducible apply EvK.ret)
           | ((with_reducible apply EvO.spd_t); (case hp => first | assumption | omega))
           | ((with_reducible apply EvO.spd_yt); (case hp => first | assumption | omega))
           | (with_reducible apply EvO.nilT)
           | ((with_reducible apply EvO.gf); (case hW => exact rfl))
           | ((with_reducible apply EvO.gt0); (case hW => exact rfl); (case hx => first
              | ((with_reducible apply OpR.mv); (conv => lhs; whnf); try exact rfl)
              | ((with_reducible apply OpR.pk_t); (case hc => exact rfl); (case h => (conv => lhs; whnf); try exact rfl))
              | exact OpR.r fun _ => rfl))
           | ((with_reducible apply EvO.u0); (case hx => first
              | ((with_reducible apply OpR.mv); (conv => lhs; whnf); try exact rfl)
              | ((with_reducible apply OpR.asg); (conv => lhs; whnf); try exact rfl)
              | ((with_reducible apply OpR.pk_t); (case hc => exact rfl); (case h => (conv => lhs; whnf); try exact rfl))
              | ((with_reducible apply OpR.callF); (case hcal => exact rfl); (case hav => exact rfl); (case hx => exact rfl); (case hh => exact rfl); (case hm => exact rfl); (case hcl => exact hc); (case hr => exact rfl))
              | exact OpR.r fun _ => rfl))
           | fail)
        exact ⟨.inr rfl, rfl⟩
theorem ebefore_c (a b : Ev) (hb : b.past.length ≤ 140737488351232) : Cl cfg 56 [.t (evA a), .t (evA b)] [] (.t (.bool (hasS b.past a.r a.n))) [] := by
  have hn := name_c a
  have hh := has_c (a := b.past) (r := a.r) (n := a.n) hb
  rw [evA_cells b]
  refine Cl.of_body rfl Tryz.func56 rfl rfl rfl ?_
  repeat' (first
     | (with_reducible apply EvK.seq)
     | ((with_reducible apply EvK.text); (try case hm => exact rfl))
     | ((with_reducible apply EvK.drawn); (case hm => exact rfl))
     | (with_reducible apply EvK.ret)
     | (with_reducible apply EvO.nilT)
     | ((with_reducible apply EvO.u0); (case hx => first
        | ((with_reducible apply OpR.asg); (conv => lhs; whnf); try exact rfl)
        | ((with_reducible apply OpR.callF); (case hcal => exact rfl); (case hav => exact rfl); (case hx => exact rfl); (case hh => exact rfl); (case hm => exact rfl); (case hcl => exact hn); (case hr => exact rfl))
        | ((with_reducible apply OpR.callF); (case hcal => exact rfl); (case hav => exact rfl); (case hx => exact rfl); (case hh => exact rfl); (case hm => exact rfl); (case hcl => exact hh); (case hr => exact rfl))
        | ((with_reducible apply OpR.fal); (case hy => exact rfl); (case ho => exact rfl); (case hn => (conv => lhs; whnf); try exact rfl))
        | ((with_reducible apply OpR.bxt); (case hs => exact fun _ => rfl); (case hy => exact rfl); (case ho => kernel_rfl); (case hn => (first | exact ln0 | exact ln1 | exact ln2 | exact ln3 | exact ln4 | exact ln5 | exact ln6 | exact ln7 | exact ln8 | exact ln9 | exact ln10 | exact ln11 | exact ln12 | exact ln13 | exact ln14)); (case hf => (repeat' (first | exact LEq.nil | ((with_reducible apply LEq.cons); (case h => (conv => lhs; whnf); try exact rfl)) | (apply LEq.cons; (case h => (conv => lhs; whnf); try exact rfl))))))
        | ((with_reducible apply OpR.ldw); (case hy => exact rfl); (case ht => first | (with_reducible exact sz0) | (with_reducible exact sz1) | (with_reducible exact sz2) | (with_reducible exact sz3) | (with_reducible exact sz4) | (with_reducible exact sz5) | (with_reducible exact sz6) | (with_reducible exact sz7) | (with_reducible exact sz8) | (with_reducible exact sz9)); (case hb => exact rfl); (case hl => kernel_rfl))
        | exact OpR.r fun _ => rfl))
     | fail)
  exact ⟨.inr rfl, rfl⟩
theorem before_c (a b : Ev) (ha : a.past.length ≤ 140737488351232) (hb : b.past.length ≤ 140737488351232) : Cl cfg 16 [.t (evA a), .t (evA b)] [] (.t (.bool (befB a b))) [] := by
  have h1 := formed_c a ha
  have h2 := formed_c b hb
  have h3 := ebefore_c a b hb
  unfold befB
  refine Cl.of_body rfl Tryz.func16 rfl rfl rfl ?_
  obtain ⟨x, hx⟩ : ∃ x, formB a = x := ⟨_, rfl⟩
  obtain ⟨y, hy⟩ : ∃ x, formB b = x := ⟨_, rfl⟩
  obtain ⟨z, hz⟩ : ∃ x, hasS b.past a.r a.n = x := ⟨_, rfl⟩
  rw [hx] at h1 ⊢
  rw [hy] at h2 ⊢
  rw [hz] at h3 ⊢
  cases x with
  | false =>
    repeat' (first
       | (with_reducible apply EvK.seq)
       | ((with_reducible apply EvK.text); (try case hm => exact rfl))
       | (with_reducible apply EvK.ret)
       | (with_reducible apply EvO.nilT)
       | ((with_reducible apply EvO.gf); (case hW => exact rfl))
       | ((with_reducible apply EvO.u0); (case hx => first
          | ((with_reducible apply OpR.mv); (conv => lhs; whnf); try exact rfl)
          | ((with_reducible apply OpR.asg); (conv => lhs; whnf); try exact rfl)
          | ((with_reducible apply OpR.pk_f); (case hc => exact rfl); (case h => (conv => lhs; whnf); try exact rfl))
          | ((with_reducible apply OpR.callF); (case hcal => exact rfl); (case hav => exact rfl); (case hx => exact rfl); (case hh => exact rfl); (case hm => exact rfl); (case hcl => exact h1); (case hr => exact rfl))
          | ((with_reducible apply OpR.bxt); (case hs => exact fun _ => rfl); (case hy => exact rfl); (case ho => kernel_rfl); (case hn => (first | exact ln0 | exact ln1 | exact ln2 | exact ln3 | exact ln4 | exact ln5 | exact ln6 | exact ln7 | exact ln8 | exact ln9 | exact ln10 | exact ln11 | exact ln12 | exact ln13 | exact ln14)); (case hf => (repeat' (first | exact LEq.nil | ((with_reducible apply LEq.cons); (case h => (conv => lhs; whnf); try exact rfl)) | (apply LEq.cons; (case h => (conv => lhs; whnf); try exact rfl))))))
          | ((with_reducible apply OpR.ldw); (case hy => exact rfl); (case ht => first | (with_reducible exact sz0) | (with_reducible exact sz1) | (with_reducible exact sz2) | (with_reducible exact sz3) | (with_reducible exact sz4) | (with_reducible exact sz5) | (with_reducible exact sz6) | (with_reducible exact sz7) | (with_reducible exact sz8) | (with_reducible exact sz9)); (case hb => exact rfl); (case hl => kernel_rfl))))
       | fail)
    exact ⟨.inr rfl, rfl⟩
  | true =>
    cases y with
    | false =>
      repeat' (first
         | (with_reducible apply EvK.seq)
         | ((with_reducible apply EvK.text); (try case hm => exact rfl))
         | (with_reducible apply EvK.ret)
         | (with_reducible apply EvO.nilT)
         | ((with_reducible apply EvO.gf); (case hW => exact rfl))
         | ((with_reducible apply EvO.gt0); (case hW => exact rfl); (case hx => first
            | ((with_reducible apply OpR.callF); (case hcal => exact rfl); (case hav => exact rfl); (case hx => exact rfl); (case hh => exact rfl); (case hm => exact rfl); (case hcl => exact h2); (case hr => exact rfl))
            | ((with_reducible apply OpR.ldw); (case hy => exact rfl); (case ht => first | (with_reducible exact sz0) | (with_reducible exact sz1) | (with_reducible exact sz2) | (with_reducible exact sz3) | (with_reducible exact sz4) | (with_reducible exact sz5) | (with_reducible exact sz6) | (with_reducible exact sz7) | (with_reducible exact sz8) | (with_reducible exact sz9)); (case hb => exact rfl); (case hl => kernel_rfl))))
         | ((with_reducible apply EvO.u0); (case hx => first
            | ((with_reducible apply OpR.mv); (conv => lhs; whnf); try exact rfl)
            | ((with_reducible apply OpR.asg); (conv => lhs; whnf); try exact rfl)
            | ((with_reducible apply OpR.pk_t); (case hc => exact rfl); (case h => (conv => lhs; whnf); try exact rfl))
            | ((with_reducible apply OpR.pk_f); (case hc => exact rfl); (case h => (conv => lhs; whnf); try exact rfl))
            | ((with_reducible apply OpR.callF); (case hcal => exact rfl); (case hav => exact rfl); (case hx => exact rfl); (case hh => exact rfl); (case hm => exact rfl); (case hcl => exact h1); (case hr => exact rfl))
            | ((with_reducible apply OpR.bxt); (case hs => exact fun _ => rfl); (case hy => exact rfl); (case ho => kernel_rfl); (case hn => (first | exact ln0 | exact ln1 | exact ln2 | exact ln3 | exact ln4 | exact ln5 | exact ln6 | exact ln7 | exact ln8 | exact ln9 | exact ln10 | exact ln11 | exact ln12 | exact ln13 | exact ln14)); (case hf => (repeat' (first | exact LEq.nil | ((with_reducible apply LEq.cons); (case h => (conv => lhs; whnf); try exact rfl)) | (apply LEq.cons; (case h => (conv => lhs; whnf); try exact rfl))))))
            | ((with_reducible apply OpR.ldw); (case hy => exact rfl); (case ht => first | (with_reducible exact sz0) | (with_reducible exact sz1) | (with_reducible exact sz2) | (with_reducible exact sz3) | (with_reducible exact sz4) | (with_reducible exact sz5) | (with_reducible exact sz6) | (with_reducible exact sz7) | (with_reducible exact sz8) | (with_reducible exact sz9)); (case hb => exact rfl); (case hl => kernel_rfl))))
         | fail)
      exact ⟨.inr rfl, rfl⟩
    | true =>
      cases z with
      | false =>
        repeat' (first
           | (with_reducible apply EvK.seq)
           | ((with_reducible apply EvK.text); (try case hm => exact rfl))
           | (with_reducible apply EvK.ret)
           | (with_reducible apply EvO.nilT)
           | ((with_reducible apply EvO.gt0); (case hW => exact rfl); (case hx => first
              | ((with_reducible apply OpR.callF); (case hcal => exact rfl); (case hav => exact rfl); (case hx => exact rfl); (case hh => exact rfl); (case hm => exact rfl); (case hcl => exact h2); (case hr => exact rfl))
              | ((with_reducible apply OpR.callF); (case hcal => exact rfl); (case hav => exact rfl); (case hx => exact rfl); (case hh => exact rfl); (case hm => exact rfl); (case hcl => exact h3); (case hr => exact rfl))
              | ((with_reducible apply OpR.ldw); (case hy => exact rfl); (case ht => first | (with_reducible exact sz0) | (with_reducible exact sz1) | (with_reducible exact sz2) | (with_reducible exact sz3) | (with_reducible exact sz4) | (with_reducible exact sz5) | (with_reducible exact sz6) | (with_reducible exact sz7) | (with_reducible exact sz8) | (with_reducible exact sz9)); (case hb => exact rfl); (case hl => kernel_rfl))))
           | ((with_reducible apply EvO.u0); (case hx => first
              | ((with_reducible apply OpR.mv); (conv => lhs; whnf); try exact rfl)
              | ((with_reducible apply OpR.asg); (conv => lhs; whnf); try exact rfl)
              | ((with_reducible apply OpR.pk_t); (case hc => exact rfl); (case h => (conv => lhs; whnf); try exact rfl))
              | ((with_reducible apply OpR.callF); (case hcal => exact rfl); (case hav => exact rfl); (case hx => exact rfl); (case hh => exact rfl); (case hm => exact rfl); (case hcl => exact h1); (case hr => exact rfl))
              | ((with_reducible apply OpR.bxt); (case hs => exact fun _ => rfl); (case hy => exact rfl); (case ho => kernel_rfl); (case hn => (first | exact ln0 | exact ln1 | exact ln2 | exact ln3 | exact ln4 | exact ln5 | exact ln6 | exact ln7 | exact ln8 | exact ln9 | exact ln10 | exact ln11 | exact ln12 | exact ln13 | exact ln14)); (case hf => (repeat' (first | exact LEq.nil | ((with_reducible apply LEq.cons); (case h => (conv => lhs; whnf); try exact rfl)) | (apply LEq.cons; (case h => (conv => lhs; whnf); try exact rfl))))))
              | ((with_reducible apply OpR.ldw); (case hy => exact rfl); (case ht => first | (with_reducible exact sz0) | (with_reducible exact sz1) | (with_reducible exact sz2) | (with_reducible exact sz3) | (with_reducible exact sz4) | (with_reducible exact sz5) | (with_reducible exact sz6) | (with_reducible exact sz7) | (with_reducible exact sz8) | (with_reducible exact sz9)); (case hb => exact rfl); (case hl => kernel_rfl))))
           | fail)
        exact ⟨.inr rfl, rfl⟩
      | true =>
        repeat' (first
           | (with_reducible apply EvK.seq)
           | ((with_reducible apply EvK.text); (try case hm => exact rfl))
           | (with_reducible apply EvK.ret)
           | (with_reducible apply EvO.nilT)
           | ((with_reducible apply EvO.gt0); (case hW => exact rfl); (case hx => first
              | ((with_reducible apply OpR.callF); (case hcal => exact rfl); (case hav => exact rfl); (case hx => exact rfl); (case hh => exact rfl); (case hm => exact rfl); (case hcl => exact h2); (case hr => exact rfl))
              | ((with_reducible apply OpR.callF); (case hcal => exact rfl); (case hav => exact rfl); (case hx => exact rfl); (case hh => exact rfl); (case hm => exact rfl); (case hcl => exact h3); (case hr => exact rfl))
              | ((with_reducible apply OpR.ldw); (case hy => exact rfl); (case ht => first | (with_reducible exact sz0) | (with_reducible exact sz1) | (with_reducible exact sz2) | (with_reducible exact sz3) | (with_reducible exact sz4) | (with_reducible exact sz5) | (with_reducible exact sz6) | (with_reducible exact sz7) | (with_reducible exact sz8) | (with_reducible exact sz9)); (case hb => exact rfl); (case hl => kernel_rfl))))
           | ((with_reducible apply EvO.u0); (case hx => first
              | ((with_reducible apply OpR.mv); (conv => lhs; whnf); try exact rfl)
              | ((with_reducible apply OpR.asg); (conv => lhs; whnf); try exact rfl)
              | ((with_reducible apply OpR.pk_t); (case hc => exact rfl); (case h => (conv => lhs; whnf); try exact rfl))
              | ((with_reducible apply OpR.callF); (case hcal => exact rfl); (case hav => exact rfl); (case hx => exact rfl); (case hh => exact rfl); (case hm => exact rfl); (case hcl => exact h1); (case hr => exact rfl))
              | ((with_reducible apply OpR.bxt); (case hs => exact fun _ => rfl); (case hy => exact rfl); (case ho => kernel_rfl); (case hn => (first | exact ln0 | exact ln1 | exact ln2 | exact ln3 | exact ln4 | exact ln5 | exact ln6 | exact ln7 | exact ln8 | exact ln9 | exact ln10 | exact ln11 | exact ln12 | exact ln13 | exact ln14)); (case hf => (repeat' (first | exact LEq.nil | ((with_reducible apply LEq.cons); (case h => (conv => lhs; whnf); try exact rfl)) | (apply LEq.cons; (case h => (conv => lhs; whnf); try exact rfl))))))
              | ((with_reducible apply OpR.ldw); (case hy => exact rfl); (case ht => first | (with_reducible exact sz0) | (with_reducible exact sz1) | (with_reducible exact sz2) | (with_reducible exact sz3) | (with_reducible exact sz4) | (with_reducible exact sz5) | (with_reducible exact sz6) | (with_reducible exact sz7) | (with_reducible exact sz8) | (with_reducible exact sz9)); (case hb => exact rfl); (case hl => kernel_rfl))))
           | fail)
        exact ⟨.inr rfl, rfl⟩
end Go.Proofs.YtgbfedgghjcdcaaGreatDoor
