/- Law 32: the reference's order, cut and clock; lists of events compared. No condition. -/
import Derived.Test.YtgbfedgghjcdcaaGreatDoorTD
import Derived.Test.YtgbfedgghjcdcaaGreatDoorTKC
import Derived.Test.YtgbfedgghjcdcaaGreatDoorTW
import Derived.Test.YtgbfedgghjcdcaaGreatDoorTE
import Derived.Test.YtgbfedgghjcdcaaGreatDoorEF0
namespace Go.Proofs.YtgbfedgghjcdcaaGreatDoor
set_option linter.unusedSimpArgs false
set_option linter.unusedVariables false
set_option linter.unusedSectionVars false
open Go.RowKit
set_option maxRecDepth 100000
set_option maxHeartbeats 16000000

theorem eqs_c {a b : List Int} (ha : a.length ≤ 140737488351232) (hb : b.length ≤ 140737488351232) (h : a = b) : Cl cfg 36 [.t (intsA a), .t (intsA b)] [] (.t (.bool true)) [] := by
  subst h
  refine Cl.of_body rfl Tryz.func36 rfl rfl rfl ?_
  repeat' (first
 | (with_reducible apply EvK.seq)
 | (with_reducible apply EvK.block)
 | ((with_reducible apply EvK.text); (try case hm => exact rfl))
 | (with_reducible apply EvK.skip)
 | (with_reducible apply thenK_n)
 | ((with_reducible apply EvK.cond_f); (case hc => exact rfl))
 | ((with_reducible apply EvO.spn_f); (case hp => first | assumption | omega))
 | (with_reducible apply EvO.nilT)
 | ((with_reducible apply EvO.u0); (case hx => first
 | ((with_reducible apply OpR.mv); (conv => lhs; whnf); try exact rfl)
 | ((with_reducible apply OpR.asg); (conv => lhs; whnf); try exact rfl)
 | ((with_reducible apply OpR.len); (case ha => exact rfl); (case hy => exact rfl); (case ht => exact rfl); (case hs => exact rfl); (case hn => first | exact List.length_map _ | exact rfl))
 | exact OpR.r fun _ => rfl))
 | fail)
  apply EvK.loopV
  case ho => exact rfl
  case hp => exact rfl
  case hl => exact rfl
  case hs => repeat' (first | exact Slots.nil | (apply Slots.cons; (case hv => (conv => lhs; whnf); try exact rfl)))
  refine EvL.ind (fun q : Nat => [(13, .t (.int .i64 (q : Int)))]) (fun q => q ≤ a.length) (fun q => a.length - q) 0 rfl (by simp) (fun q hq => ?_)
  rcases Nat.lt_or_ge q a.length with h3 | h3
  ·
    obtain ⟨n, hn⟩ := get_of_lt h3
    have hc := intsE_get hn
    repeat' (first
 | (with_reducible apply EvK.seq)
 | (with_reducible apply EvK.block)
 | ((with_reducible apply EvK.text); (try case hm => exact rfl))
 | ((with_reducible apply EvK.drawn); (case hm => exact rfl))
 | (with_reducible apply EvK.skip)
 | (with_reducible apply thenK_n)
 | (with_reducible apply blockK_n)
 | ((with_reducible apply EvK.cond_t); (case hc => exact rfl))
 | ((with_reducible apply EvK.cond_f); (case hc => exact rfl))
 | ((with_reducible apply EvO.spd_t); (case hp => first | assumption | omega))
 | ((with_reducible apply EvO.spn_f); (case hp => first | assumption | omega))
 | (with_reducible apply EvO.nilT)
 | ((with_reducible apply EvO.u0); (case hx => first
 | ((with_reducible apply OpR.mv); (conv => lhs; whnf); try exact rfl)
 | ((with_reducible apply OpR.asg); (conv => lhs; whnf); try exact rfl)
 | ((with_reducible apply OpR.inc); (case hx => exact rfl); (case hy => exact rfl); (case h => omega))
 | ((with_reducible apply OpR.ix); (case he => first | (with_reducible exact el0) | (with_reducible exact el1) | (with_reducible exact el2) | (with_reducible exact el3) | (with_reducible exact el4) | (with_reducible exact el5) | (with_reducible exact el6) | (with_reducible exact el7) | exact rfl); (case hx => exact rfl); (case hi => exact rfl); (case hc => assumption); (case hz => exact rfl))
 | exact OpR.r fun _ => rfl))
 | fail)
    refine ⟨q + 1, rfl, rfl, by omega, by omega⟩
  ·
    repeat' (first
 | (with_reducible apply EvK.seq)
 | ((with_reducible apply EvK.text); (try case hm => exact rfl))
 | (with_reducible apply EvK.exit)
 | (with_reducible apply EvK.ret)
 | (with_reducible apply thenK_n)
 | (with_reducible apply thenK_e)
 | (with_reducible apply blockK_h)
 | ((with_reducible apply EvK.cond_f); (case hc => exact rfl))
 | ((with_reducible apply EvO.spd_f); (case hp => first | assumption | omega))
 | (with_reducible apply EvO.nilT)
 | ((with_reducible apply EvO.u0); (case hx => first
 | ((with_reducible apply OpR.asg); (conv => lhs; whnf); try exact rfl)
 | exact OpR.r fun _ => rfl))
 | fail)
    exact ⟨.inr rfl, rfl⟩
theorem less32_c (a b : Ev) : Cl cfg 91 [.t (evA a), .t (evA b)] [] (.t (.bool (ltE a b))) [] := by
  refine Cl.of_body rfl Tryz.func91 rfl rfl rfl ?_
  repeat' (first
 | (with_reducible apply EvK.seq)
 | ((with_reducible apply EvK.text); (try case hm => exact rfl))
 | (with_reducible apply EvK.skip)
 | (with_reducible apply EvK.ret)
 | (with_reducible apply thenK_n)
 | (with_reducible apply thenK_r)
 | ((with_reducible apply EvK.cond_t); (case hc => exact rfl))
 | ((with_reducible apply EvK.cond_f); (case hc => exact rfl))
 | ((with_reducible apply EvO.spd) <;> intro hq)
 | ((with_reducible apply EvO.spn) <;> intro hq)
 | (with_reducible apply EvO.nilT)
 | ((with_reducible apply EvO.u0); (case hx => first
 | ((with_reducible apply OpR.asg); (conv => lhs; whnf); try exact rfl)
 | ((with_reducible apply OpR.fal); (case hy => exact rfl); (case ho => exact rfl); (case hn => (conv => lhs; whnf); try exact rfl))
 | ((with_reducible apply OpR.bxt); (case hs => exact fun _ => rfl); (case hy => exact rfl); (case ho => kernel_rfl); (case hn => (first | exact ln0 | exact ln1 | exact ln2 | exact ln3 | exact ln4 | exact ln5 | exact ln6 | exact ln7 | exact ln8 | exact ln9 | exact ln10 | exact ln11 | exact ln12 | exact ln13 | exact ln14)); (case hf => (repeat' (first | exact LEq.nil | ((first | with_reducible apply LEq.cons | apply LEq.cons); (case h => (conv => lhs; whnf); try exact rfl))))))
 | exact OpR.r fun _ => rfl))
 | fail)
  all_goals (refine fin_b (.inr rfl) rfl ?_; unfold ltE; simp [*])
theorem same_c {l : List Ev} (hl : l.length ≤ 1000) (hp : ∀ e ∈ l, e.past.length ≤ 1000) : Cl cfg 41 [.t (.arr (evsE l)), .t (.arr (evsE l))] [] (.t (.bool true)) [] := by
  have hlE := evsE_len l
  refine Cl.of_body rfl Tryz.func41 rfl rfl rfl ?_
  repeat' (first
 | (with_reducible apply EvK.seq)
 | (with_reducible apply EvK.block)
 | ((with_reducible apply EvK.text); (try case hm => exact rfl))
 | (with_reducible apply EvK.skip)
 | (with_reducible apply thenK_n)
 | ((with_reducible apply EvK.cond_f); (case hc => exact rfl))
 | ((with_reducible apply EvO.spn_f); (case hp => first | assumption | omega))
 | (with_reducible apply EvO.nilT)
 | ((with_reducible apply EvO.u0); (case hx => first
 | ((with_reducible apply OpR.mv); (conv => lhs; whnf); try exact rfl)
 | ((with_reducible apply OpR.asg); (conv => lhs; whnf); try exact rfl)
 | ((with_reducible apply OpR.len); (case ha => exact rfl); (case hy => exact rfl); (case ht => exact rfl); (case hs => exact rfl); (case hn => first | exact List.length_map _ | exact rfl))
 | exact OpR.r fun _ => rfl))
 | fail)
  apply EvK.loopV
  case ho => exact rfl
  case hp => exact rfl
  case hl => exact rfl
  case hs => repeat' (first | exact Slots.nil | (apply Slots.cons; (case hv => (conv => lhs; whnf); try exact rfl)))
  refine EvL.ind (fun q : Nat => [(5, .t (.int .i64 (q : Int)))]) (fun q => q ≤ l.length) (fun q => l.length - q) 0 rfl (by omega) (fun q hq => ?_)
  rcases Nat.lt_or_ge q l.length with h3 | h3
  ·
    obtain ⟨e, he⟩ := get_of_lt h3
    have hc := evsE_get he
    have kq := requal_c e (hp e (List.mem_of_getElem? he))
    repeat' (first
 | (with_reducible apply EvK.seq)
 | (with_reducible apply EvK.block)
 | ((with_reducible apply EvK.text); (try case hm => exact rfl))
 | ((with_reducible apply EvK.drawn); (case hm => exact rfl))
 | (with_reducible apply EvK.skip)
 | (with_reducible apply thenK_n)
 | (with_reducible apply blockK_n)
 | ((with_reducible apply EvK.cond_t); (case hc => exact rfl))
 | ((with_reducible apply EvK.cond_f); (case hc => exact rfl))
 | ((with_reducible apply EvO.spd_t); (case hp => first | assumption | omega))
 | (with_reducible apply EvO.nilT)
 | ((with_reducible apply EvO.u0); (case hx => first
 | ((with_reducible apply OpR.mv); (conv => lhs; whnf); try exact rfl)
 | ((with_reducible apply OpR.asg); (conv => lhs; whnf); try exact rfl)
 | ((with_reducible apply OpR.callF); (case hcal => exact rfl); (case hav => exact rfl); (case hx => exact rfl); (case hh => exact rfl); (case hm => exact rfl); (case hcl => exact kq); (case hr => exact rfl))
 | ((with_reducible apply OpR.inc); (case hx => exact rfl); (case hy => exact rfl); (case h => omega))
 | ((with_reducible apply OpR.len); (case ha => exact rfl); (case hy => exact rfl); (case ht => exact rfl); (case hs => exact rfl); (case hn => first | exact List.length_map _ | exact rfl))
 | ((with_reducible apply OpR.ix); (case he => first | (with_reducible exact el0) | (with_reducible exact el1) | (with_reducible exact el2) | (with_reducible exact el3) | (with_reducible exact el4) | (with_reducible exact el5) | (with_reducible exact el6) | (with_reducible exact el7) | exact rfl); (case hx => exact rfl); (case hi => exact rfl); (case hc => assumption); (case hz => exact rfl))
 | exact OpR.r fun _ => rfl))
 | fail)
    refine ⟨q + 1, rfl, rfl, by omega, by omega⟩
  ·
    repeat' (first
 | (with_reducible apply EvK.seq)
 | ((with_reducible apply EvK.text); (try case hm => exact rfl))
 | (with_reducible apply EvK.exit)
 | (with_reducible apply EvK.ret)
 | (with_reducible apply thenK_n)
 | (with_reducible apply thenK_e)
 | (with_reducible apply blockK_h)
 | ((with_reducible apply EvK.cond_f); (case hc => exact rfl))
 | ((with_reducible apply EvO.spd_f); (case hp => first | assumption | omega))
 | (with_reducible apply EvO.nilT)
 | ((with_reducible apply EvO.u0); (case hx => first
 | ((with_reducible apply OpR.mv); (conv => lhs; whnf); try exact rfl)
 | ((with_reducible apply OpR.asg); (conv => lhs; whnf); try exact rfl)
 | ((with_reducible apply OpR.len); (case ha => exact rfl); (case hy => exact rfl); (case ht => exact rfl); (case hs => exact rfl); (case hn => first | exact List.length_map _ | exact rfl))
 | exact OpR.r fun _ => rfl))
 | fail)
    exact ⟨.inr rfl, rfl⟩
theorem rcut_c {l : List Ev} {c : List Int} (hl : l.length ≤ 1000) (hc : c.length ≤ 1000) : Cl cfg 45 [.t (.arr (evsE l)), .t (intsA c)] [] (.ls 0) [.row false false 13 (evsE (cutE l c))] := by
  have hlE := evsE_len l
  refine Cl.of_body rfl Tryz.func45 rfl rfl rfl ?_
  repeat' (first
 | (with_reducible apply EvK.seq)
 | (with_reducible apply EvK.block)
 | ((with_reducible apply EvK.text); (try case hm => exact rfl))
 | (with_reducible apply EvO.nilT)
 | ((with_reducible apply EvO.u0); (case hx => first
 | ((with_reducible apply OpR.asg); (conv => lhs; whnf); try exact rfl)
 | ((with_reducible apply OpR.bs0); (case hs => exact fun _ => rfl); (case hr => first | (with_reducible exact rw0) | (with_reducible exact rw1) | (with_reducible exact rw2) | (with_reducible exact rw3) | (with_reducible exact rw4) | exact rfl); (case hn => (first | exact ln0 | exact ln1 | exact ln2 | exact ln3 | exact ln4 | exact ln5 | exact ln6 | exact ln7 | exact ln8 | exact ln9 | exact ln10 | exact ln11 | exact ln12 | exact ln13 | exact ln14)); (case hf => (repeat' (first | exact LEq.nil | ((first | with_reducible apply LEq.cons | apply LEq.cons); (case h => (conv => lhs; whnf); try exact rfl))))))))
 | fail)
  apply EvK.loopV
  case ho => exact rfl
  case hp => exact rfl
  case hl => exact rfl
  case hs => repeat' (first | exact Slots.nil | (apply Slots.cons; (case hv => (conv => lhs; whnf); try exact rfl)))
  refine EvL.indF (fun s : Nat × Bool => [(5, .ls 0), (6, .t (.int .i64 (s.1 : Int)))]) (fun s => [.row false s.2 13 (evsE (cutE (l.take s.1) c))]) (fun s => s.1 ≤ l.length) (fun s => l.length - s.1) (0, false) rfl rfl (by simp) (fun s hq => ?_)
  obtain ⟨k, tch⟩ := s
  dsimp only at hq ⊢
  rcases Nat.lt_or_ge k l.length with h3 | h3
  ·
    obtain ⟨e, he⟩ := get_of_lt h3
    have hce := evsE_get he
    have kn := rname32_c e
    have kh := rhasd_c (a := c) (r := e.r) (n := e.n) (by omega)
    have hst := cutE_snoc (c := c) he
    have hcl : (cutE (l.take k) c).length ≤ k := Nat.le_trans (List.length_filter_le _ _) (by simp; omega)
    obtain ⟨X, hX⟩ : ∃ X, cutE (l.take k) c = X := ⟨_, rfl⟩
    rw [hX] at hst hcl ⊢
    cases hh : hasS c e.r e.n with
    | false =>
      rw [hh] at kh
      rw [hh, if_neg (by decide), List.append_nil] at hst
      repeat' (first
 | (with_reducible apply EvK.seq)
 | (with_reducible apply EvK.block)
 | ((with_reducible apply EvK.text); (try case hm => exact rfl))
 | (with_reducible apply EvK.skip)
 | (with_reducible apply thenK_n)
 | (with_reducible apply blockK_n)
 | ((with_reducible apply EvK.cond_t); (case hc => exact rfl))
 | ((with_reducible apply EvK.cond_f); (case hc => exact rfl))
 | ((with_reducible apply EvO.spd_t); (case hp => first | assumption | omega))
 | (with_reducible apply EvO.nilT)
 | ((with_reducible apply EvO.u0); (case hx => first
 | ((with_reducible apply OpR.mv); (conv => lhs; whnf); try exact rfl)
 | ((with_reducible apply OpR.asg); (conv => lhs; whnf); try exact rfl)
 | ((with_reducible apply OpR.callF); (case hcal => exact rfl); (case hav => exact rfl); (case hx => exact rfl); (case hh => exact rfl); (case hm => exact rfl); (case hcl => exact kn); (case hr => exact rfl))
 | ((with_reducible apply OpR.callF); (case hcal => exact rfl); (case hav => exact rfl); (case hx => exact rfl); (case hh => exact rfl); (case hm => exact rfl); (case hcl => exact kh); (case hr => exact rfl))
 | ((with_reducible apply OpR.inc); (case hx => exact rfl); (case hy => exact rfl); (case h => omega))
 | ((with_reducible apply OpR.len); (case ha => exact rfl); (case hy => exact rfl); (case ht => exact rfl); (case hs => exact rfl); (case hn => first | exact List.length_map _ | exact rfl))
 | ((with_reducible apply OpR.ix); (case he => first | (with_reducible exact el0) | (with_reducible exact el1) | (with_reducible exact el2) | (with_reducible exact el3) | (with_reducible exact el4) | (with_reducible exact el5) | (with_reducible exact el6) | (with_reducible exact el7) | exact rfl); (case hx => exact rfl); (case hi => exact rfl); (case hc => assumption); (case hz => exact rfl))
 | exact OpR.r fun _ => rfl))
 | fail)
      refine ⟨(k + 1, tch), rfl, by dsimp only; rw [hst]; rfl, by dsimp only; omega, by dsimp only; omega⟩
    | true =>
      rw [hh] at kh
      rw [hh, if_pos rfl] at hst
      have hsn : evsE X ++ [evCs e] = evsE (cutE (l.take (k + 1)) c) := by rw [hst]; simp [evsE]
      have hlX : lenOk ((evsE X).length + 1) 120 = true := by rw [evsE_len]; simp [lenOk]; omega
      repeat' (first
 | (with_reducible apply EvK.seq)
 | (with_reducible apply EvK.block)
 | ((with_reducible apply EvK.text); (try case hm => exact rfl))
 | (with_reducible apply EvK.skip)
 | (with_reducible apply thenK_n)
 | ((with_reducible apply EvK.cond_t); (case hc => exact rfl))
 | ((with_reducible apply EvO.spd_t); (case hp => first | assumption | omega))
 | (with_reducible apply EvO.nilT)
 | (with_reducible apply EvO.nilB)
 | ((with_reducible apply EvO.u); (case hx => ((with_reducible apply OpR.apr); (case hs => exact fun _ => rfl); (case ha => exact rfl); (case ht => exact rfl); (case hr => first | (with_reducible exact rw0) | (with_reducible exact rw1) | (with_reducible exact rw2) | (with_reducible exact rw3) | (with_reducible exact rw4) | exact rfl); (case hx => exact rfl); (case hy => exact rfl); (case hn => exact rfl); (case hb => exact rfl); (case hok => exact rfl); (case hlen => exact hlX); (case hv => exact hsn); (case hk => (repeat' (first | exact KFr.nil | (with_reducible apply KFr.row) | (with_reducible apply KFr.boxt) | ((apply KFr.box); (case hd => (repeat' (first | exact LEq.nil | ((first | with_reducible apply LEq.cons | apply LEq.cons); (case h => (conv => lhs; whnf); try exact rfl))))))))); (case hf => (repeat' (first | exact LEq.nil | ((first | with_reducible apply LEq.cons | apply LEq.cons); (case h => (conv => lhs; whnf); try exact rfl))))))))
 | ((with_reducible apply EvO.u0); (case hx => first
 | ((with_reducible apply OpR.mv); (conv => lhs; whnf); try exact rfl)
 | ((with_reducible apply OpR.asg); (conv => lhs; whnf); try exact rfl)
 | ((with_reducible apply OpR.callF); (case hcal => exact rfl); (case hav => exact rfl); (case hx => exact rfl); (case hh => exact rfl); (case hm => exact rfl); (case hcl => exact kn); (case hr => exact rfl))
 | ((with_reducible apply OpR.callF); (case hcal => exact rfl); (case hav => exact rfl); (case hx => exact rfl); (case hh => exact rfl); (case hm => exact rfl); (case hcl => exact kh); (case hr => exact rfl))
 | ((with_reducible apply OpR.inc); (case hx => exact rfl); (case hy => exact rfl); (case h => omega))
 | ((with_reducible apply OpR.len); (case ha => exact rfl); (case hy => exact rfl); (case ht => exact rfl); (case hs => exact rfl); (case hn => first | exact List.length_map _ | exact rfl))
 | ((with_reducible apply OpR.ix); (case he => first | (with_reducible exact el0) | (with_reducible exact el1) | (with_reducible exact el2) | (with_reducible exact el3) | (with_reducible exact el4) | (with_reducible exact el5) | (with_reducible exact el6) | (with_reducible exact el7) | exact rfl); (case hx => exact rfl); (case hi => exact rfl); (case hc => assumption); (case hz => exact rfl))
 | exact OpR.r fun _ => rfl))
 | fail)
      refine ⟨(k + 1, true), rfl, rfl, by dsimp only; omega, by dsimp only; omega⟩
  ·
    rw [List.take_of_length_le h3]
    repeat' (first
 | (with_reducible apply EvK.seq)
 | ((with_reducible apply EvK.text); (try case hm => exact rfl))
 | (with_reducible apply EvK.exit)
 | (with_reducible apply EvK.ret)
 | (with_reducible apply thenK_n)
 | (with_reducible apply thenK_e)
 | (with_reducible apply blockK_h)
 | ((with_reducible apply EvK.cond_f); (case hc => exact rfl))
 | ((with_reducible apply EvO.spd_f); (case hp => first | assumption | omega))
 | (with_reducible apply EvO.nilT)
 | ((with_reducible apply EvO.u0); (case hx => first
 | ((with_reducible apply OpR.mv); (conv => lhs; whnf); try exact rfl)
 | ((with_reducible apply OpR.asg); (conv => lhs; whnf); try exact rfl)
 | ((with_reducible apply OpR.len); (case ha => exact rfl); (case hy => exact rfl); (case ht => exact rfl); (case hs => exact rfl); (case hn => first | exact List.length_map _ | exact rfl))
 | exact OpR.r fun _ => rfl))
 | fail)
    exact ⟨.inr rfl, rfl⟩
theorem zero_n {m : Int} (h : m < 1 ∨ 5 < m) : Cl cfg 73 [.t (.int .i64 m)] [] .nil [] := by
  refine Cl.of_body rfl Tryz.func73 rfl rfl rfl ?_
  repeat' (first
 | (with_reducible apply EvK.seq)
 | ((with_reducible apply EvK.text); (try case hm => exact rfl))
 | (with_reducible apply EvK.ret)
 | (with_reducible apply thenK_r)
 | ((with_reducible apply EvK.cond_t); (case hc => exact rfl))
 | ((with_reducible apply EvO.spd) <;> intro hq)
 | ((with_reducible apply EvO.spd_yt); (case hp => first | assumption | omega))
 | (with_reducible apply EvO.nilT)
 | ((with_reducible apply EvO.gf); (case hW => exact rfl))
 | ((with_reducible apply EvO.gt0); (case hW => exact rfl); (case hx => first
 | ((with_reducible apply OpR.mv); (conv => lhs; whnf); try exact rfl)
 | exact OpR.r fun _ => rfl))
 | ((with_reducible apply EvO.u0); (case hx => first
 | ((with_reducible apply OpR.mv); (conv => lhs; whnf); try exact rfl)
 | ((with_reducible apply OpR.asg); (conv => lhs; whnf); try exact rfl)
 | ((with_reducible apply OpR.pk_t); (case hc => exact rfl); (case h => (conv => lhs; whnf); try exact rfl))
 | ((with_reducible apply OpR.pk_f); (case hc => exact rfl); (case h => (conv => lhs; whnf); try exact rfl))
 | exact OpR.r fun _ => rfl))
 | fail)
  all_goals first
    | omega
    | exact ⟨.inr rfl, rfl⟩
theorem rzero_n {m : Int} (h : m < 1 ∨ 5 < m) : Cl cfg 84 [.t (.int .i64 m)] [] .nil [] := by
  refine Cl.of_body rfl Tryz.func84 rfl rfl rfl ?_
  repeat' (first
 | (with_reducible apply EvK.seq)
 | ((with_reducible apply EvK.text); (try case hm => exact rfl))
 | (with_reducible apply EvK.ret)
 | (with_reducible apply thenK_r)
 | ((with_reducible apply EvK.cond_t); (case hc => exact rfl))
 | ((with_reducible apply EvO.spd) <;> intro hq)
 | ((with_reducible apply EvO.spd_yt); (case hp => first | assumption | omega))
 | (with_reducible apply EvO.nilT)
 | ((with_reducible apply EvO.gf); (case hW => exact rfl))
 | ((with_reducible apply EvO.gt0); (case hW => exact rfl); (case hx => first
 | ((with_reducible apply OpR.mv); (conv => lhs; whnf); try exact rfl)
 | exact OpR.r fun _ => rfl))
 | ((with_reducible apply EvO.u0); (case hx => first
 | ((with_reducible apply OpR.mv); (conv => lhs; whnf); try exact rfl)
 | ((with_reducible apply OpR.asg); (conv => lhs; whnf); try exact rfl)
 | ((with_reducible apply OpR.pk_t); (case hc => exact rfl); (case h => (conv => lhs; whnf); try exact rfl))
 | ((with_reducible apply OpR.pk_f); (case hc => exact rfl); (case h => (conv => lhs; whnf); try exact rfl))
 | exact OpR.r fun _ => rfl))
 | fail)
  all_goals first
    | omega
    | exact ⟨.inr rfl, rfl⟩
theorem rzero_c {m : Nat} (h1 : 1 ≤ m) (h5 : m ≤ 5) : Cl cfg 84 [.t (.int .i64 (m : Int))] [] (.ls 0) [.row false false 1 (intsE (List.replicate m 0))] := by
  have : m = 1 ∨ m = 2 ∨ m = 3 ∨ m = 4 ∨ m = 5 := by omega
  rcases this with rfl | rfl | rfl | rfl | rfl <;> exact ⟨4, by kernel_rfl⟩
theorem eclock_z {l : List Ev} {m : Int} (h : m < 1 ∨ 5 < m) : Cl cfg 25 [.t (.int .i64 m), .t (.arr (evsE l))] [] (.tup [.nil, .t (.int .i64 1)]) [] := by
  have kz := zero_n h
  refine Cl.of_body rfl Tryz.func25 rfl rfl rfl ?_
  repeat' (first
 | (with_reducible apply EvK.seq)
 | ((with_reducible apply EvK.text); (try case hm => exact rfl))
 | (with_reducible apply EvK.ret)
 | (with_reducible apply thenK_r)
 | ((with_reducible apply EvK.cond_t); (case hc => exact rfl))
 | (with_reducible apply EvO.nilT)
 | ((with_reducible apply EvO.gf); (case hW => exact rfl))
 | ((with_reducible apply EvO.u0); (case hx => first
 | ((with_reducible apply OpR.mv); (conv => lhs; whnf); try exact rfl)
 | ((with_reducible apply OpR.asg); (conv => lhs; whnf); try exact rfl)
 | ((with_reducible apply OpR.pk_t); (case hc => exact rfl); (case h => (conv => lhs; whnf); try exact rfl))
 | ((with_reducible apply OpR.callF); (case hcal => exact rfl); (case hav => exact rfl); (case hx => exact rfl); (case hh => exact rfl); (case hm => exact rfl); (case hcl => exact kz); (case hr => exact rfl))
 | exact OpR.r fun _ => rfl))
 | fail)
  exact ⟨.inr rfl, rfl⟩
theorem rclock_z {l : List Ev} {m : Int} (h : m < 1 ∨ 5 < m) : Cl cfg 39 [.t (.int .i64 m), .t (.arr (evsE l))] [] (.tup [.nil, .t (.int .i64 1)]) [] := by
  have kz := rzero_n h
  have hz : ([] : List (List AV)).length = 0 := rfl
  refine Cl.of_body rfl Tryz.func39 rfl rfl rfl ?_
  repeat' (first
 | (with_reducible apply EvK.seq)
 | ((with_reducible apply EvK.text); (try case hm => exact rfl))
 | (with_reducible apply EvK.ret)
 | (with_reducible apply thenK_r)
 | ((with_reducible apply EvK.cond_t); (case hc => exact rfl))
 | ((with_reducible apply EvO.spd_t); (case hp => first | assumption | omega))
 | (with_reducible apply EvO.nilT)
 | ((with_reducible apply EvO.gf); (case hW => exact rfl))
 | ((with_reducible apply EvO.u0); (case hx => first
 | ((with_reducible apply OpR.mv); (conv => lhs; whnf); try exact rfl)
 | ((with_reducible apply OpR.asg); (conv => lhs; whnf); try exact rfl)
 | ((with_reducible apply OpR.pk_t); (case hc => exact rfl); (case h => (conv => lhs; whnf); try exact rfl))
 | ((with_reducible apply OpR.callF); (case hcal => exact rfl); (case hav => exact rfl); (case hx => exact rfl); (case hh => exact rfl); (case hm => exact rfl); (case hcl => exact kz); (case hr => exact rfl))
 | ((with_reducible apply OpR.len); (case ha => exact rfl); (case hy => exact rfl); (case ht => exact rfl); (case hs => exact rfl); (case hn => first | exact List.length_map _ | exact rfl))
 | exact OpR.r fun _ => rfl))
 | fail)
  exact ⟨.inr rfl, rfl⟩
theorem eclock_f {l : List Ev} {m : Nat} (hl : l.length ≤ 140737488351232) (hp : ∀ e ∈ l, e.past.length ≤ 140737488351232) (h1 : 1 ≤ m) (h5 : m ≤ 5) (hc : closedB l = false) : Cl cfg 25 [.t (.int .i64 (m : Int)), .t (.arr (evsE l))] [] (.tup [.nil, .t (.int .i64 1)]) [] := by
  have kz := zero_c h1 h5
  have kc := closed_c hl hp
  rw [hc] at kc
  obtain ⟨z, zs, hz⟩ : ∃ z zs, intsE (List.replicate m 0) = z :: zs := by
    obtain ⟨k, rfl⟩ : ∃ k, m = k + 1 := ⟨m - 1, by omega⟩
    exact ⟨_, _, rfl⟩
  rw [hz] at kz
  refine Cl.of_body rfl Tryz.func25 rfl rfl rfl ?_
  repeat' (first
 | (with_reducible apply EvK.seq)
 | ((with_reducible apply EvK.text); (try case hm => exact rfl))
 | (with_reducible apply EvK.ret)
 | (with_reducible apply thenK_r)
 | ((with_reducible apply EvK.cond_t); (case hc => exact rfl))
 | (with_reducible apply EvO.nilT)
 | ((with_reducible apply EvO.gt0); (case hW => exact rfl); (case hx => first
 | ((with_reducible apply OpR.mv); (conv => lhs; whnf); try exact rfl)
 | ((with_reducible apply OpR.callF); (case hcal => exact rfl); (case hav => exact rfl); (case hx => exact rfl); (case hh => exact rfl); (case hm => exact rfl); (case hcl => exact kc); (case hr => exact rfl))
 | exact OpR.r fun _ => rfl))
 | ((with_reducible apply EvO.u0); (case hx => first
 | ((with_reducible apply OpR.mv); (conv => lhs; whnf); try exact rfl)
 | ((with_reducible apply OpR.asg); (conv => lhs; whnf); try exact rfl)
 | ((with_reducible apply OpR.pk_f); (case hc => exact rfl); (case h => (conv => lhs; whnf); try exact rfl))
 | ((with_reducible apply OpR.callX); (case hcal => exact rfl); (case hav => exact rfl); (case hx => exact rfl); (case hh => exact rfl); (case hm => exact rfl); (case hcl => exact kz); (case hr => exact rfl); (case hd => exact rfl); (case hq => kernel_rfl); (case hn => (first | exact ln0 | exact ln1 | exact ln2 | exact ln3 | exact ln4 | exact ln5 | exact ln6 | exact ln7 | exact ln8 | exact ln9 | exact ln10 | exact ln11 | exact ln12 | exact ln13 | exact ln14)); (case hv => (conv => lhs; whnf); try exact rfl); (case he => (repeat' (first | exact XFr.nil | (with_reducible apply XFr.row) | (with_reducible apply XFr.boxt) | ((apply XFr.box); (case hd => (repeat' (first | exact LEq.nil | ((first | with_reducible apply LEq.cons | apply LEq.cons); (case h => (conv => lhs; whnf); try exact rfl))))))))); (case hf => (repeat' (first | exact LEq.nil | ((first | with_reducible apply LEq.cons | apply LEq.cons); (case h => (conv => lhs; whnf); try exact rfl))))))
 | exact OpR.r fun _ => rfl))
 | fail)
  exact ⟨.inr rfl, rfl⟩
theorem rclock_f {l : List Ev} {m : Nat} (hl : l.length ≤ 140737488351232) (hp : ∀ e ∈ l, e.past.length ≤ 140737488351232) (h1 : 1 ≤ m) (h5 : m ≤ 5) (hc : closedB l = false) : Cl cfg 39 [.t (.int .i64 (m : Int)), .t (.arr (evsE l))] [] (.tup [.nil, .t (.int .i64 1)]) [] := by
  have kz := rzero_c h1 h5
  have kc := rclosed_c hl hp
  rw [hc] at kc
  have hzl := intsE_len (List.replicate m 0)
  rw [List.length_replicate] at hzl
  obtain ⟨Z, hZ⟩ : ∃ Z, intsE (List.replicate m 0) = Z := ⟨_, rfl⟩
  rw [hZ] at kz hzl
  refine Cl.of_body rfl Tryz.func39 rfl rfl rfl ?_
  repeat' (first
 | (with_reducible apply EvK.seq)
 | ((with_reducible apply EvK.text); (try case hm => exact rfl))
 | (with_reducible apply EvK.ret)
 | (with_reducible apply thenK_r)
 | ((with_reducible apply EvK.cond_t); (case hc => exact rfl))
 | ((with_reducible apply EvO.spd_f); (case hp => first | assumption | omega))
 | (with_reducible apply EvO.nilT)
 | ((with_reducible apply EvO.gt0); (case hW => exact rfl); (case hx => first
 | ((with_reducible apply OpR.mv); (conv => lhs; whnf); try exact rfl)
 | ((with_reducible apply OpR.callF); (case hcal => exact rfl); (case hav => exact rfl); (case hx => exact rfl); (case hh => exact rfl); (case hm => exact rfl); (case hcl => exact kc); (case hr => exact rfl))
 | exact OpR.r fun _ => rfl))
 | ((with_reducible apply EvO.u0); (case hx => first
 | ((with_reducible apply OpR.mv); (conv => lhs; whnf); try exact rfl)
 | ((with_reducible apply OpR.asg); (conv => lhs; whnf); try exact rfl)
 | ((with_reducible apply OpR.pk_f); (case hc => exact rfl); (case h => (conv => lhs; whnf); try exact rfl))
 | ((with_reducible apply OpR.callX); (case hcal => exact rfl); (case hav => exact rfl); (case hx => exact rfl); (case hh => exact rfl); (case hm => exact rfl); (case hcl => exact kz); (case hr => exact rfl); (case hd => exact rfl); (case hq => kernel_rfl); (case hn => (first | exact ln0 | exact ln1 | exact ln2 | exact ln3 | exact ln4 | exact ln5 | exact ln6 | exact ln7 | exact ln8 | exact ln9 | exact ln10 | exact ln11 | exact ln12 | exact ln13 | exact ln14)); (case hv => (conv => lhs; whnf); try exact rfl); (case he => (repeat' (first | exact XFr.nil | (with_reducible apply XFr.row) | (with_reducible apply XFr.boxt) | ((apply XFr.box); (case hd => (repeat' (first | exact LEq.nil | ((first | with_reducible apply LEq.cons | apply LEq.cons); (case h => (conv => lhs; whnf); try exact rfl))))))))); (case hf => (repeat' (first | exact LEq.nil | ((first | with_reducible apply LEq.cons | apply LEq.cons); (case h => (conv => lhs; whnf); try exact rfl))))))
 | ((with_reducible apply OpR.len); (case ha => exact rfl); (case hy => exact rfl); (case ht => exact rfl); (case hs => exact rfl); (case hn => first | exact List.length_map _ | exact rfl))
 | exact OpR.r fun _ => rfl))
 | fail)
  exact ⟨.inr rfl, rfl⟩
theorem eclock_l {e : Ev} {l : List Ev} {m : Nat} (hC : ClosedP (e :: l)) (hp : ∀ x ∈ e :: l, x.past.length ≤ 140737488351232) (h1 : 1 ≤ m) (h5 : m ≤ 5) (hm : e.past.length ≠ m) : Cl cfg 25 [.t (.int .i64 (m : Int)), .t (.arr (evsE (e :: l)))] [] (.tup [.nil, .t (.int .i64 1)]) [] := by
  have hlen := hC.few
  have hlE := evsE_len (e :: l)
  have hle := intsE_len e.past
  have hpe := hp e (by simp)
  have kz := zero_c h1 h5
  have kc := closed_c (l := e :: l) (by omega) hp
  rw [closedB_t hC] at kc
  obtain ⟨z, zs, hz⟩ : ∃ z zs, intsE (List.replicate m 0) = z :: zs := by
    obtain ⟨k, rfl⟩ : ∃ k, m = k + 1 := ⟨m - 1, by omega⟩
    exact ⟨_, _, rfl⟩
  rw [hz] at kz
  have hce : (evsE (e :: l))[0]? = some (evCs e) := rfl
  have hpos : 0 < (evsE (e :: l)).length := by rw [hlE]; simp
  obtain ⟨E, hE⟩ : ∃ E, evsE (e :: l) = E := ⟨_, rfl⟩
  rw [hE] at kc hce hlE hpos ⊢
  refine Cl.of_body rfl Tryz.func25 rfl rfl rfl ?_
  repeat' (first
 | (with_reducible apply EvK.seq)
 | (with_reducible apply EvK.block)
 | ((with_reducible apply EvK.text); (try case hm => exact rfl))
 | (with_reducible apply EvK.skip)
 | (with_reducible apply thenK_n)
 | ((with_reducible apply EvK.cond_f); (case hc => exact rfl))
 | (with_reducible apply EvO.nilT)
 | ((with_reducible apply EvO.gt0); (case hW => exact rfl); (case hx => first
 | ((with_reducible apply OpR.mv); (conv => lhs; whnf); try exact rfl)
 | ((with_reducible apply OpR.callF); (case hcal => exact rfl); (case hav => exact rfl); (case hx => exact rfl); (case hh => exact rfl); (case hm => exact rfl); (case hcl => exact kc); (case hr => exact rfl))
 | exact OpR.r fun _ => rfl))
 | ((with_reducible apply EvO.u0); (case hx => first
 | ((with_reducible apply OpR.mv); (conv => lhs; whnf); try exact rfl)
 | ((with_reducible apply OpR.asg); (conv => lhs; whnf); try exact rfl)
 | ((with_reducible apply OpR.pk_f); (case hc => exact rfl); (case h => (conv => lhs; whnf); try exact rfl))
 | ((with_reducible apply OpR.callX); (case hcal => exact rfl); (case hav => exact rfl); (case hx => exact rfl); (case hh => exact rfl); (case hm => exact rfl); (case hcl => exact kz); (case hr => exact rfl); (case hd => exact rfl); (case hq => kernel_rfl); (case hn => (first | exact ln0 | exact ln1 | exact ln2 | exact ln3 | exact ln4 | exact ln5 | exact ln6 | exact ln7 | exact ln8 | exact ln9 | exact ln10 | exact ln11 | exact ln12 | exact ln13 | exact ln14)); (case hv => (conv => lhs; whnf); try exact rfl); (case he => (repeat' (first | exact XFr.nil | (with_reducible apply XFr.row) | (with_reducible apply XFr.boxt) | ((apply XFr.box); (case hd => (repeat' (first | exact LEq.nil | ((first | with_reducible apply LEq.cons | apply LEq.cons); (case h => (conv => lhs; whnf); try exact rfl))))))))); (case hf => (repeat' (first | exact LEq.nil | ((first | with_reducible apply LEq.cons | apply LEq.cons); (case h => (conv => lhs; whnf); try exact rfl))))))
 | ((with_reducible apply OpR.len); (case ha => exact rfl); (case hy => exact rfl); (case ht => exact rfl); (case hs => exact rfl); (case hn => first | exact List.length_map _ | exact rfl))
 | exact OpR.r fun _ => rfl))
 | fail)
  apply EvK.loopV
  case ho => exact rfl
  case hp => exact rfl
  case hl => exact rfl
  case hs => repeat' (first | exact Slots.nil | (apply Slots.cons; (case hv => (conv => lhs; whnf); try exact rfl)))
  refine EvL.step ?_
  repeat' (first
 | (with_reducible apply EvK.seq)
 | (with_reducible apply EvK.block)
 | ((with_reducible apply EvK.text); (try case hm => exact rfl))
 | (with_reducible apply EvK.skip)
 | (with_reducible apply EvK.ret)
 | (with_reducible apply thenK_n)
 | (with_reducible apply thenK_r)
 | (with_reducible apply blockK_r)
 | ((with_reducible apply EvK.cond_t); (case hc => exact rfl))
 | ((with_reducible apply EvO.spd_t); (case hp => first | assumption | omega))
 | ((with_reducible apply EvO.spn_t); (case hp => first | assumption | omega))
 | (with_reducible apply EvO.nilT)
 | ((with_reducible apply EvO.u0); (case hx => first
 | ((with_reducible apply OpR.mv); (conv => lhs; whnf); try exact rfl)
 | ((with_reducible apply OpR.asg); (conv => lhs; whnf); try exact rfl)
 | ((with_reducible apply OpR.len); (case ha => exact rfl); (case hy => exact rfl); (case ht => exact rfl); (case hs => exact rfl); (case hn => first | exact List.length_map _ | exact rfl))
 | ((with_reducible apply OpR.ix); (case he => first | (with_reducible exact el0) | (with_reducible exact el1) | (with_reducible exact el2) | (with_reducible exact el3) | (with_reducible exact el4) | (with_reducible exact el5) | (with_reducible exact el6) | (with_reducible exact el7) | exact rfl); (case hx => exact rfl); (case hi => exact rfl); (case hc => assumption); (case hz => exact rfl))
 | ((with_reducible apply OpR.fal); (case hy => exact rfl); (case ho => exact rfl); (case hn => (conv => lhs; whnf); try exact rfl))
 | ((with_reducible apply OpR.al); (case hs => exact fun _ => rfl); (case hz => exact rfl); (case hc => (repeat' (first | exact LEq.nil | ((first | with_reducible apply LEq.cons | apply LEq.cons); (case h => (conv => lhs; whnf); try exact rfl))))); (case hn => (first | exact ln0 | exact ln1 | exact ln2 | exact ln3 | exact ln4 | exact ln5 | exact ln6 | exact ln7 | exact ln8 | exact ln9 | exact ln10 | exact ln11 | exact ln12 | exact ln13 | exact ln14)); (case hf => (repeat' (first | exact LEq.nil | ((first | with_reducible apply LEq.cons | apply LEq.cons); (case h => (conv => lhs; whnf); try exact rfl))))))
 | ((with_reducible apply OpR.stw); (case hs => exact fun _ => rfl); (case ha => exact rfl); (case hy => exact rfl); (case ht => first | (with_reducible exact sz0) | (with_reducible exact sz1) | (with_reducible exact sz2) | (with_reducible exact sz3) | (with_reducible exact sz4) | (with_reducible exact sz5) | (with_reducible exact sz6) | (with_reducible exact sz7) | (with_reducible exact sz8) | (with_reducible exact sz9) | exact rfl); (case ho => kernel_rfl); (case hl => kernel_rfl); (case hb => exact rfl); (case hc => kernel_rfl); (case hf => (repeat' (first | exact LEq.nil | ((first | with_reducible apply LEq.cons | apply LEq.cons); (case h => (conv => lhs; whnf); try exact rfl))))))
 | exact OpR.r fun _ => rfl))
 | fail)
  exact ⟨.inr rfl, rfl⟩
theorem rclock_l {e : Ev} {l : List Ev} {m : Nat} (hC : ClosedP (e :: l)) (hp : ∀ x ∈ e :: l, x.past.length ≤ 140737488351232) (h1 : 1 ≤ m) (h5 : m ≤ 5) (hm : e.past.length ≠ m) : Cl cfg 39 [.t (.int .i64 (m : Int)), .t (.arr (evsE (e :: l)))] [] (.tup [.nil, .t (.int .i64 1)]) [] := by
  have hlen := hC.few
  have hlE := evsE_len (e :: l)
  have hle := intsE_len e.past
  have hpe := hp e (by simp)
  have kz := rzero_c h1 h5
  have kc := rclosed_c (l := e :: l) (by omega) hp
  rw [closedB_t hC] at kc
  have hzl := intsE_len (List.replicate m 0)
  rw [List.length_replicate] at hzl
  obtain ⟨Z, hZ⟩ : ∃ Z, intsE (List.replicate m 0) = Z := ⟨_, rfl⟩
  rw [hZ] at kz hzl
  have hce : (evsE (e :: l))[0]? = some (evCs e) := rfl
  have hpos : 0 < (evsE (e :: l)).length := by rw [hlE]; simp
  obtain ⟨E, hE⟩ : ∃ E, evsE (e :: l) = E := ⟨_, rfl⟩
  rw [hE] at kc hce hlE hpos ⊢
  refine Cl.of_body rfl Tryz.func39 rfl rfl rfl ?_
  repeat' (first
 | (with_reducible apply EvK.seq)
 | (with_reducible apply EvK.block)
 | ((with_reducible apply EvK.text); (try case hm => exact rfl))
 | (with_reducible apply EvK.skip)
 | (with_reducible apply thenK_n)
 | ((with_reducible apply EvK.cond_f); (case hc => exact rfl))
 | ((with_reducible apply EvO.spd_f); (case hp => first | assumption | omega))
 | (with_reducible apply EvO.nilT)
 | ((with_reducible apply EvO.gt0); (case hW => exact rfl); (case hx => first
 | ((with_reducible apply OpR.mv); (conv => lhs; whnf); try exact rfl)
 | ((with_reducible apply OpR.callF); (case hcal => exact rfl); (case hav => exact rfl); (case hx => exact rfl); (case hh => exact rfl); (case hm => exact rfl); (case hcl => exact kc); (case hr => exact rfl))
 | exact OpR.r fun _ => rfl))
 | ((with_reducible apply EvO.u0); (case hx => first
 | ((with_reducible apply OpR.mv); (conv => lhs; whnf); try exact rfl)
 | ((with_reducible apply OpR.asg); (conv => lhs; whnf); try exact rfl)
 | ((with_reducible apply OpR.pk_f); (case hc => exact rfl); (case h => (conv => lhs; whnf); try exact rfl))
 | ((with_reducible apply OpR.callX); (case hcal => exact rfl); (case hav => exact rfl); (case hx => exact rfl); (case hh => exact rfl); (case hm => exact rfl); (case hcl => exact kz); (case hr => exact rfl); (case hd => exact rfl); (case hq => kernel_rfl); (case hn => (first | exact ln0 | exact ln1 | exact ln2 | exact ln3 | exact ln4 | exact ln5 | exact ln6 | exact ln7 | exact ln8 | exact ln9 | exact ln10 | exact ln11 | exact ln12 | exact ln13 | exact ln14)); (case hv => (conv => lhs; whnf); try exact rfl); (case he => (repeat' (first | exact XFr.nil | (with_reducible apply XFr.row) | (with_reducible apply XFr.boxt) | ((apply XFr.box); (case hd => (repeat' (first | exact LEq.nil | ((first | with_reducible apply LEq.cons | apply LEq.cons); (case h => (conv => lhs; whnf); try exact rfl))))))))); (case hf => (repeat' (first | exact LEq.nil | ((first | with_reducible apply LEq.cons | apply LEq.cons); (case h => (conv => lhs; whnf); try exact rfl))))))
 | ((with_reducible apply OpR.len); (case ha => exact rfl); (case hy => exact rfl); (case ht => exact rfl); (case hs => exact rfl); (case hn => first | exact List.length_map _ | exact rfl))
 | exact OpR.r fun _ => rfl))
 | fail)
  apply EvK.loopV
  case ho => exact rfl
  case hp => exact rfl
  case hl => exact rfl
  case hs => repeat' (first | exact Slots.nil | (apply Slots.cons; (case hv => (conv => lhs; whnf); try exact rfl)))
  refine EvL.step ?_
  repeat' (first
 | (with_reducible apply EvK.seq)
 | (with_reducible apply EvK.block)
 | ((with_reducible apply EvK.text); (try case hm => exact rfl))
 | (with_reducible apply EvK.skip)
 | (with_reducible apply EvK.ret)
 | (with_reducible apply thenK_n)
 | (with_reducible apply thenK_r)
 | (with_reducible apply blockK_r)
 | ((with_reducible apply EvK.cond_t); (case hc => exact rfl))
 | ((with_reducible apply EvO.spd_t); (case hp => first | assumption | omega))
 | ((with_reducible apply EvO.spn_t); (case hp => first | assumption | omega))
 | (with_reducible apply EvO.nilT)
 | ((with_reducible apply EvO.u0); (case hx => first
 | ((with_reducible apply OpR.mv); (conv => lhs; whnf); try exact rfl)
 | ((with_reducible apply OpR.asg); (conv => lhs; whnf); try exact rfl)
 | ((with_reducible apply OpR.len); (case ha => exact rfl); (case hy => exact rfl); (case ht => exact rfl); (case hs => exact rfl); (case hn => first | exact List.length_map _ | exact rfl))
 | ((with_reducible apply OpR.ix); (case he => first | (with_reducible exact el0) | (with_reducible exact el1) | (with_reducible exact el2) | (with_reducible exact el3) | (with_reducible exact el4) | (with_reducible exact el5) | (with_reducible exact el6) | (with_reducible exact el7) | exact rfl); (case hx => exact rfl); (case hi => exact rfl); (case hc => assumption); (case hz => exact rfl))
 | exact OpR.r fun _ => rfl))
 | fail)
  exact ⟨.inr rfl, rfl⟩
theorem rclock_c {l : List Ev} {m : Nat} (hC : ClosedP l) (hm : ∀ e ∈ l, e.past.length = m) (h1 : 1 ≤ m) (h5 : m ≤ 5) : Cl cfg 39 [.t (.int .i64 (m : Int)), .t (.arr (evsE l))] [] (.tup [.ls 0, .t (.int .i64 0)]) [.row false false 1 (intsE (clkE m l))] := by
  have hlen := hC.few
  have hlE := evsE_len l
  have kz := rzero_c h1 h5
  have kc := rclosed_c (l := l) (by omega) (fun e he => by rw [hm e he]; omega)
  rw [closedB_t hC] at kc
  have hz0 : intsE (List.replicate m 0) = intsE (clkE m (l.take 0)) := rfl
  have hzl := intsE_len (List.replicate m 0)
  rw [List.length_replicate] at hzl
  obtain ⟨Z, hZ⟩ : ∃ Z, intsE (List.replicate m 0) = Z := ⟨_, rfl⟩
  rw [hZ] at kz hz0 hzl
  refine Cl.of_body rfl Tryz.func39 rfl rfl rfl ?_
  repeat' (first
 | (with_reducible apply EvK.seq)
 | (with_reducible apply EvK.block)
 | ((with_reducible apply EvK.text); (try case hm => exact rfl))
 | (with_reducible apply EvK.skip)
 | (with_reducible apply thenK_n)
 | ((with_reducible apply EvK.cond_f); (case hc => exact rfl))
 | ((with_reducible apply EvO.spd_f); (case hp => first | assumption | omega))
 | (with_reducible apply EvO.nilT)
 | ((with_reducible apply EvO.gt0); (case hW => exact rfl); (case hx => first
 | ((with_reducible apply OpR.mv); (conv => lhs; whnf); try exact rfl)
 | ((with_reducible apply OpR.callF); (case hcal => exact rfl); (case hav => exact rfl); (case hx => exact rfl); (case hh => exact rfl); (case hm => exact rfl); (case hcl => exact kc); (case hr => exact rfl))
 | exact OpR.r fun _ => rfl))
 | ((with_reducible apply EvO.u0); (case hx => first
 | ((with_reducible apply OpR.mv); (conv => lhs; whnf); try exact rfl)
 | ((with_reducible apply OpR.asg); (conv => lhs; whnf); try exact rfl)
 | ((with_reducible apply OpR.pk_f); (case hc => exact rfl); (case h => (conv => lhs; whnf); try exact rfl))
 | ((with_reducible apply OpR.callX); (case hcal => exact rfl); (case hav => exact rfl); (case hx => exact rfl); (case hh => exact rfl); (case hm => exact rfl); (case hcl => exact kz); (case hr => exact rfl); (case hd => exact rfl); (case hq => kernel_rfl); (case hn => (first | exact ln0 | exact ln1 | exact ln2 | exact ln3 | exact ln4 | exact ln5 | exact ln6 | exact ln7 | exact ln8 | exact ln9 | exact ln10 | exact ln11 | exact ln12 | exact ln13 | exact ln14)); (case hv => (conv => lhs; whnf); try exact rfl); (case he => (repeat' (first | exact XFr.nil | (with_reducible apply XFr.row) | (with_reducible apply XFr.boxt) | ((apply XFr.box); (case hd => (repeat' (first | exact LEq.nil | ((first | with_reducible apply LEq.cons | apply LEq.cons); (case h => (conv => lhs; whnf); try exact rfl))))))))); (case hf => (repeat' (first | exact LEq.nil | ((first | with_reducible apply LEq.cons | apply LEq.cons); (case h => (conv => lhs; whnf); try exact rfl))))))
 | ((with_reducible apply OpR.len); (case ha => exact rfl); (case hy => exact rfl); (case ht => exact rfl); (case hs => exact rfl); (case hn => first | exact List.length_map _ | exact rfl))
 | exact OpR.r fun _ => rfl))
 | fail)
  apply EvK.loopV
  case ho => exact rfl
  case hp => exact rfl
  case hl => exact rfl
  case hs => repeat' (first | exact Slots.nil | (apply Slots.cons; (case hv => (conv => lhs; whnf); try exact rfl)))
  refine EvL.indF (fun k : Nat => [(7, .t (.int .i64 (k : Int)))]) (fun k => [.row false false 1 (intsE (clkE m (l.take k)))]) (fun k => k ≤ l.length) (fun k => l.length - k) 0 rfl (by rw [hz0]) (by omega) (fun k hk => ?_)
  rcases Nat.lt_or_ge k l.length with h3 | h3
  ·
    obtain ⟨e, he⟩ := get_of_lt h3
    have hmem := List.mem_of_getElem? he
    have hc := evsE_get he
    have hpl := hm e hmem
    have hle := intsE_len e.past
    obtain ⟨r0, r1, _, _⟩ := form_rng (hC.form e hmem)
    have hst := clkE_snoc (m := m) he
    have hcl := clkE_len m (l.take k)
    obtain ⟨c, hcc⟩ : ∃ c, clkE m (l.take k) = c := ⟨_, rfl⟩
    rw [hcc] at hst hcl ⊢
    obtain ⟨v, hv⟩ := get_of_lt (xs := c) (k := e.r.toNat) (by omega)
    have hk' := intsE_get hv
    have hlc := intsE_len c
    have hsn : (intsE c).set e.r.toNat [.int .i64 (max v e.n)] = intsE (clkE m (l.take (k + 1))) := by
      rw [hst, clkStep, getD_get hv]
      simp [intsE, List.map_set]
    repeat' (first
 | (with_reducible apply EvK.seq)
 | (with_reducible apply EvK.block)
 | ((with_reducible apply EvK.text); (try case hm => exact rfl))
 | ((with_reducible apply EvK.drawn); (case hm => exact rfl))
 | (with_reducible apply EvK.skip)
 | (with_reducible apply thenK_n)
 | ((with_reducible apply EvK.cond_t); (case hc => exact rfl))
 | ((with_reducible apply EvK.cond_f); (case hc => exact rfl))
 | ((with_reducible apply EvO.spd_t); (case hp => first | assumption | omega))
 | ((with_reducible apply EvO.spn_f); (case hp => first | assumption | omega))
 | (with_reducible apply EvO.nilT)
 | (with_reducible apply EvO.nilB)
 | ((with_reducible apply EvO.u0); (case hx => first
 | ((with_reducible apply OpR.mv); (conv => lhs; whnf); try exact rfl)
 | ((with_reducible apply OpR.asg); (conv => lhs; whnf); try exact rfl)
 | ((with_reducible apply OpR.sti); (case hs => exact fun _ => rfl); (case ha => exact rfl); (case hy => exact rfl); (case ht => exact rfl); (case hone => exact rfl); (case hn => kernel_rfl); (case hb => exact rfl); (case hk => exact hk'); (case hj => exact rfl); (case hv => exact hsn); (case hf => (repeat' (first | exact LEq.nil | ((first | with_reducible apply LEq.cons | apply LEq.cons); (case h => (conv => lhs; whnf); try exact rfl))))))
 | ((with_reducible apply OpR.inc); (case hx => exact rfl); (case hy => exact rfl); (case h => omega))
 | ((with_reducible apply OpR.len); (case ha => exact rfl); (case hy => exact rfl); (case ht => exact rfl); (case hs => exact rfl); (case hn => first | exact List.length_map _ | exact rfl))
 | ((with_reducible apply OpR.ix); (case he => first | (with_reducible exact el0) | (with_reducible exact el1) | (with_reducible exact el2) | (with_reducible exact el3) | (with_reducible exact el4) | (with_reducible exact el5) | (with_reducible exact el6) | (with_reducible exact el7) | exact rfl); (case hx => exact rfl); (case hi => exact rfl); (case hc => assumption); (case hz => exact rfl))
 | ((with_reducible apply OpR.ixrm); (case he => first | (with_reducible exact el0) | (with_reducible exact el1) | (with_reducible exact el2) | (with_reducible exact el3) | (with_reducible exact el4) | (with_reducible exact el5) | (with_reducible exact el6) | (with_reducible exact el7) | exact rfl); (case hx => exact rfl); (case hi => exact rfl); (case hb => exact rfl); (case h0 => first | assumption | omega); (case hq => first | assumption | omega))
 | ((with_reducible apply OpR.ldi); (case hy => exact rfl); (case ht => exact rfl); (case hb => exact rfl); (case hk => assumption))
 | exact OpR.r fun _ => rfl))
 | fail)
    refine ⟨k + 1, rfl, rfl, by omega, by omega⟩
  ·
    rw [List.take_of_length_le h3]
    repeat' (first
 | (with_reducible apply EvK.seq)
 | ((with_reducible apply EvK.text); (try case hm => exact rfl))
 | (with_reducible apply EvK.exit)
 | (with_reducible apply EvK.ret)
 | (with_reducible apply thenK_n)
 | (with_reducible apply thenK_e)
 | (with_reducible apply blockK_h)
 | ((with_reducible apply EvK.cond_f); (case hc => exact rfl))
 | ((with_reducible apply EvO.spd_f); (case hp => first | assumption | omega))
 | (with_reducible apply EvO.nilT)
 | ((with_reducible apply EvO.u0); (case hx => first
 | ((with_reducible apply OpR.mv); (conv => lhs; whnf); try exact rfl)
 | ((with_reducible apply OpR.asg); (conv => lhs; whnf); try exact rfl)
 | ((with_reducible apply OpR.len); (case ha => exact rfl); (case hy => exact rfl); (case ht => exact rfl); (case hs => exact rfl); (case hn => first | exact List.length_map _ | exact rfl))
 | exact OpR.r fun _ => rfl))
 | fail)
    exact ⟨.inr rfl, rfl⟩
end Go.Proofs.YtgbfedgghjcdcaaGreatDoor

namespace Go.Proofs.YtgbfedgghjcdcaaGreatDoor
set_option linter.unusedSimpArgs false
set_option linter.unusedVariables false
set_option linter.unusedSectionVars false
open Go.RowKit
set_option maxRecDepth 100000
set_option maxHeartbeats 16000000

theorem evsE_take (l : List Ev) (k : Nat) : (evsE l).take k = evsE (l.take k) := by unfold evsE; rw [List.map_take]
theorem evsE_drop (l : List Ev) (k : Nat) : (evsE l).drop k = evsE (l.drop k) := by unfold evsE; rw [List.map_drop]
theorem evsE_app (l m : List Ev) : evsE l ++ evsE m = evsE (l ++ m) := by unfold evsE; rw [List.map_append]
theorem lenE {n : Nat} (h : n ≤ 2000) : lenOk n 120 = true := by simp [lenOk]; omega
theorem rorder_c {l : List Ev} (hl : l.length ≤ 1000) : Cl cfg 43 [.t (.arr (evsE l))] [] (.ls 0) [.row false false 13 (evsE (ordE l))] := by
  have hlE := evsE_len l
  refine Cl.of_body rfl Tryz.func43 rfl rfl rfl ?_
  repeat' (first
 | (with_reducible apply EvK.seq)
 | (with_reducible apply EvK.block)
 | ((with_reducible apply EvK.text); (try case hm => exact rfl))
 | (with_reducible apply EvO.nilT)
 | ((with_reducible apply EvO.u0); (case hx => first
 | ((with_reducible apply OpR.asg); (conv => lhs; whnf); try exact rfl)
 | ((with_reducible apply OpR.bs0); (case hs => exact fun _ => rfl); (case hr => first | (with_reducible exact rw0) | (with_reducible exact rw1) | (with_reducible exact rw2) | (with_reducible exact rw3) | (with_reducible exact rw4) | exact rfl); (case hn => (first | exact ln0 | exact ln1 | exact ln2 | exact ln3 | exact ln4 | exact ln5 | exact ln6 | exact ln7 | exact ln8 | exact ln9 | exact ln10 | exact ln11 | exact ln12 | exact ln13 | exact ln14)); (case hf => (repeat' (first | exact LEq.nil | ((first | with_reducible apply LEq.cons | apply LEq.cons); (case h => (conv => lhs; whnf); try exact rfl))))))))
 | fail)
  apply EvK.loopV
  case ho => exact rfl
  case hp => exact rfl
  case hl => exact rfl
  case hs => repeat' (first | exact Slots.nil | (apply Slots.cons; (case hv => (conv => lhs; whnf); try exact rfl)))
  refine EvL.indF (fun s : Nat × Bool => [(3, .ls 0), (4, .t (.int .i64 (s.1 : Int)))]) (fun s => [.row false s.2 13 (evsE (isort ltE (l.take s.1)))]) (fun s => s.1 ≤ l.length) (fun s => l.length - s.1) (0, false) rfl rfl (by simp) (fun s hq => ?_)
  obtain ⟨k, tch⟩ := s
  dsimp only at hq ⊢
  rcases Nat.lt_or_ge k l.length with h3 | h3
  ·
    obtain ⟨x, hx⟩ := get_of_lt h3
    have hit := isort_take hx
    have hsl := isort_len (lt := ltE) k (l.take k) (by simp; omega)
    have hss := isort_srt ltE_ord _ (l.take k) rfl
    obtain ⟨S, hS⟩ : ∃ S, isort ltE (l.take k) = S := ⟨_, rfl⟩
    rw [hS] at hit hsl hss ⊢
    have hSE := evsE_len S
    have hxc := evsE_get hx
    repeat' (first
 | (with_reducible apply EvK.seq)
 | (with_reducible apply EvK.block)
 | ((with_reducible apply EvK.text); (try case hm => exact rfl))
 | (with_reducible apply EvK.skip)
 | (with_reducible apply thenK_n)
 | ((with_reducible apply EvK.cond_t); (case hc => exact rfl))
 | ((with_reducible apply EvO.spd_t); (case hp => first | assumption | omega))
 | (with_reducible apply EvO.nilT)
 | ((with_reducible apply EvO.u0); (case hx => first
 | ((with_reducible apply OpR.mv); (conv => lhs; whnf); try exact rfl)
 | ((with_reducible apply OpR.asg); (conv => lhs; whnf); try exact rfl)
 | ((with_reducible apply OpR.len); (case ha => exact rfl); (case hy => exact rfl); (case ht => exact rfl); (case hs => exact rfl); (case hn => first | exact List.length_map _ | exact rfl))
 | exact OpR.r fun _ => rfl))
 | fail)
    apply EvK.loopV
    case ho => exact rfl
    case hp => exact rfl
    case hl => exact rfl
    case hs => repeat' (first | exact Slots.nil | (apply Slots.cons; (case hv => (conv => lhs; whnf); try exact rfl)))
    refine EvL.indF (fun q : Nat => [(5, .t (.int .i64 (q : Int)))]) (fun _ => [.row false tch 13 (evsE S)]) (fun q => q ≤ S.length ∧ ∀ y, S[q]? = some y → ltE x y = true) (fun q => q) S.length rfl rfl ⟨by omega, fun y hy => by have := lt_of_get hy; omega⟩ (fun q hq2 => ?_)
    obtain ⟨g1, g2⟩ := hq2
    have hok := newsE S
    have hx1 : newsOk 13 [evCs x] = true := newsE [x]
    have hok0 : newsOk 13 ([] : List (List AV)) = true := rfl
    have hl00 : lenOk (([] : List (List AV)).length + ([] : List (List AV)).length) 120 = true := by kernel_rfl
    cases q with
    | zero =>
      have hfin := insR_one_at ltE_ord hss (by omega) (fun y h0 _ => by omega) g2
      rw [← hit] at hfin
      cases S with
      | nil =>
        have hl1 : lenOk ((evsE []).length + 1) 120 = true := by kernel_rfl
        repeat' (first
 | (with_reducible apply EvK.seq)
 | ((with_reducible apply EvK.hoi (e' := [9, 10]) (k := 9)); (case hm => exact rfl); (case he => exact rfl); (case hk => exact rfl); (case hl => (simp only [hoist, List.getElem?_toArray, List.getElem?_cons_succ, List.getElem?_cons_zero, List.take_succ_cons, List.take_zero, List.drop_succ_cons, List.drop_zero, List.map_cons, List.map_nil, List.cons_append, List.nil_append, hoO, hoI, Option.map_some, Option.map_none]; exact rfl)))
 | ((with_reducible apply EvK.text); (try case hm => exact rfl))
 | ((with_reducible apply EvK.drawn); (case hm => exact rfl))
 | (with_reducible apply EvK.exit)
 | (with_reducible apply thenK_n)
 | (with_reducible apply thenK_e)
 | (with_reducible apply blockK_h)
 | ((with_reducible apply EvK.cond_f); (case hc => exact rfl))
 | ((with_reducible apply EvO.spd_f); (case hp => first | assumption | omega))
 | (with_reducible apply EvO.nilT)
 | (with_reducible apply EvO.nilB)
 | ((with_reducible apply EvO.gf); (case hW => exact rfl))
 | ((with_reducible apply EvO.u0); (case hx => first
 | ((with_reducible apply OpR.mv); (conv => lhs; whnf); try exact rfl)
 | ((with_reducible apply OpR.asg); (conv => lhs; whnf); try exact rfl)
 | ((with_reducible apply OpR.pk_f); (case hc => exact rfl); (case h => (conv => lhs; whnf); try exact rfl))
 | ((with_reducible apply OpR.slv); (case he => first | (with_reducible exact el0) | (with_reducible exact el1) | (with_reducible exact el2) | (with_reducible exact el3) | (with_reducible exact el4) | (with_reducible exact el5) | (with_reducible exact el6) | (with_reducible exact el7) | exact rfl); (case hx => exact rfl); (case hl => exact rfl); (case hh => exact rfl); (case hb => exact rfl); (case hv => exact view_lo0))
 | ((with_reducible apply OpR.inc); (case hx => exact rfl); (case hy => exact rfl); (case h => omega))
 | ((with_reducible apply OpR.ix); (case he => first | (with_reducible exact el0) | (with_reducible exact el1) | (with_reducible exact el2) | (with_reducible exact el3) | (with_reducible exact el4) | (with_reducible exact el5) | (with_reducible exact el6) | (with_reducible exact el7) | exact rfl); (case hx => exact rfl); (case hi => exact rfl); (case hc => assumption); (case hz => exact rfl))
 | ((with_reducible apply OpR.bs0); (case hs => exact fun _ => rfl); (case hr => first | (with_reducible exact rw0) | (with_reducible exact rw1) | (with_reducible exact rw2) | (with_reducible exact rw3) | (with_reducible exact rw4) | exact rfl); (case hn => (first | exact ln0 | exact ln1 | exact ln2 | exact ln3 | exact ln4 | exact ln5 | exact ln6 | exact ln7 | exact ln8 | exact ln9 | exact ln10 | exact ln11 | exact ln12 | exact ln13 | exact ln14)); (case hf => (repeat' (first | exact LEq.nil | ((first | with_reducible apply LEq.cons | apply LEq.cons); (case h => (conv => lhs; whnf); try exact rfl))))))
 | exact OpR.r fun _ => rfl))
 | ((with_reducible apply EvO.u); (case hx => exact OpR.r fun _ => rfl))
 | fail)
        refine ⟨(k + 1, true), rfl, by dsimp only; rw [hfin]; rfl, by dsimp only; omega, by dsimp only; omega⟩
      | cons y S =>
        have hsl' : S.length + 1 = k := by simpa using hsl
        have hlS : lenOk (([] : List (List AV)).length + (evsE (y :: S)).length) 120 = true := lenE (by rw [hSE]; simp; omega)
        have hh := view_hi (r := 0) (sz := 13) (n := (evsE (y :: S)).length) (q := 0) (k := .i64) (by rw [hSE]; simp)
        have hl1 : lenOk (0 + 1) 120 = true := by kernel_rfl
        have hl2 : lenOk ([evCs x].length + (evsE (y :: S)).length) 120 = true := lenE (by rw [hSE]; simp; omega)
        have hv2 : [evCs x] ++ evsE (y :: S) = evsE (isort ltE (l.take (k + 1))) := by rw [hfin]; rfl
        repeat' (first
 | (with_reducible apply EvK.seq)
 | ((with_reducible apply EvK.hoi (e' := [9, 10]) (k := 9)); (case hm => exact rfl); (case he => exact rfl); (case hk => exact rfl); (case hl => (simp only [hoist, List.getElem?_toArray, List.getElem?_cons_succ, List.getElem?_cons_zero, List.take_succ_cons, List.take_zero, List.drop_succ_cons, List.drop_zero, List.map_cons, List.map_nil, List.cons_append, List.nil_append, hoO, hoI, Option.map_some, Option.map_none]; exact rfl)))
 | ((with_reducible apply EvK.text); (try case hm => exact rfl))
 | ((with_reducible apply EvK.drawn); (case hm => exact rfl))
 | (with_reducible apply EvK.exit)
 | (with_reducible apply thenK_n)
 | (with_reducible apply thenK_e)
 | (with_reducible apply blockK_h)
 | ((with_reducible apply EvK.cond_f); (case hc => exact rfl))
 | ((with_reducible apply EvO.spd_f); (case hp => first | assumption | omega))
 | (with_reducible apply EvO.nilT)
 | (with_reducible apply EvO.nilB)
 | ((with_reducible apply EvO.gf); (case hW => exact rfl))
 | ((with_reducible apply EvO.u); (case hx => ((with_reducible apply OpR.apr); (case hs => exact fun _ => rfl); (case ha => exact rfl); (case ht => exact rfl); (case hr => first | (with_reducible exact rw0) | (with_reducible exact rw1) | (with_reducible exact rw2) | (with_reducible exact rw3) | (with_reducible exact rw4) | exact rfl); (case hx => exact rfl); (case hy => exact rfl); (case hn => exact rfl); (case hb => exact rfl); (case hok => exact hok); (case hlen => exact hlS); (case hv => exact rfl); (case hk => (repeat' (first | exact KFr.nil | (with_reducible apply KFr.row) | (with_reducible apply KFr.boxt) | ((apply KFr.box); (case hd => (repeat' (first | exact LEq.nil | ((first | with_reducible apply LEq.cons | apply LEq.cons); (case h => (conv => lhs; whnf); try exact rfl))))))))); (case hf => (repeat' (first | exact LEq.nil | ((first | with_reducible apply LEq.cons | apply LEq.cons); (case h => (conv => lhs; whnf); try exact rfl))))))))
 | ((with_reducible apply EvO.u); (case hx => ((with_reducible apply OpR.apl); (case hs => exact fun _ => rfl); (case ha => exact rfl); (case ht => exact rfl); (case hr => first | (with_reducible exact rw0) | (with_reducible exact rw1) | (with_reducible exact rw2) | (with_reducible exact rw3) | (with_reducible exact rw4) | exact rfl); (case hx => exact rfl); (case hy => exact rfl); (case hn => exact rfl); (case hb => exact rfl); (case hok => exact hx1); (case hle => omega); (case hlen => exact hl1); (case hv => exact rfl); (case hk => (repeat' (first | exact KFr.nil | (with_reducible apply KFr.row) | (with_reducible apply KFr.boxt) | ((apply KFr.box); (case hd => (repeat' (first | exact LEq.nil | ((first | with_reducible apply LEq.cons | apply LEq.cons); (case h => (conv => lhs; whnf); try exact rfl))))))))); (case hf => (repeat' (first | exact LEq.nil | ((first | with_reducible apply LEq.cons | apply LEq.cons); (case h => (conv => lhs; whnf); try exact rfl))))))))
 | ((with_reducible apply EvO.u); (case hx => ((with_reducible apply OpR.apr); (case hs => exact fun _ => rfl); (case ha => exact rfl); (case ht => exact rfl); (case hr => first | (with_reducible exact rw0) | (with_reducible exact rw1) | (with_reducible exact rw2) | (with_reducible exact rw3) | (with_reducible exact rw4) | exact rfl); (case hx => exact rfl); (case hy => exact rfl); (case hn => exact rfl); (case hb => exact rfl); (case hok => exact hok); (case hlen => exact hl2); (case hv => exact hv2); (case hk => (repeat' (first | exact KFr.nil | (with_reducible apply KFr.row) | (with_reducible apply KFr.boxt) | ((apply KFr.box); (case hd => (repeat' (first | exact LEq.nil | ((first | with_reducible apply LEq.cons | apply LEq.cons); (case h => (conv => lhs; whnf); try exact rfl))))))))); (case hf => (repeat' (first | exact LEq.nil | ((first | with_reducible apply LEq.cons | apply LEq.cons); (case h => (conv => lhs; whnf); try exact rfl))))))))
 | ((with_reducible apply EvO.u0); (case hx => first
 | ((with_reducible apply OpR.mv); (conv => lhs; whnf); try exact rfl)
 | ((with_reducible apply OpR.asg); (conv => lhs; whnf); try exact rfl)
 | ((with_reducible apply OpR.pk_f); (case hc => exact rfl); (case h => (conv => lhs; whnf); try exact rfl))
 | ((with_reducible apply OpR.slv); (case he => first | (with_reducible exact el0) | (with_reducible exact el1) | (with_reducible exact el2) | (with_reducible exact el3) | (with_reducible exact el4) | (with_reducible exact el5) | (with_reducible exact el6) | (with_reducible exact el7) | exact rfl); (case hx => exact rfl); (case hl => exact rfl); (case hh => exact rfl); (case hb => exact rfl); (case hv => exact view_lo0))
 | ((with_reducible apply OpR.slv); (case he => first | (with_reducible exact el0) | (with_reducible exact el1) | (with_reducible exact el2) | (with_reducible exact el3) | (with_reducible exact el4) | (with_reducible exact el5) | (with_reducible exact el6) | (with_reducible exact el7) | exact rfl); (case hx => exact rfl); (case hl => exact rfl); (case hh => exact rfl); (case hb => exact rfl); (case hv => exact hh))
 | ((with_reducible apply OpR.inc); (case hx => exact rfl); (case hy => exact rfl); (case h => omega))
 | ((with_reducible apply OpR.ix); (case he => first | (with_reducible exact el0) | (with_reducible exact el1) | (with_reducible exact el2) | (with_reducible exact el3) | (with_reducible exact el4) | (with_reducible exact el5) | (with_reducible exact el6) | (with_reducible exact el7) | exact rfl); (case hx => exact rfl); (case hi => exact rfl); (case hc => assumption); (case hz => exact rfl))
 | ((with_reducible apply OpR.bs0); (case hs => exact fun _ => rfl); (case hr => first | (with_reducible exact rw0) | (with_reducible exact rw1) | (with_reducible exact rw2) | (with_reducible exact rw3) | (with_reducible exact rw4) | exact rfl); (case hn => (first | exact ln0 | exact ln1 | exact ln2 | exact ln3 | exact ln4 | exact ln5 | exact ln6 | exact ln7 | exact ln8 | exact ln9 | exact ln10 | exact ln11 | exact ln12 | exact ln13 | exact ln14)); (case hf => (repeat' (first | exact LEq.nil | ((first | with_reducible apply LEq.cons | apply LEq.cons); (case h => (conv => lhs; whnf); try exact rfl))))))
 | exact OpR.r fun _ => rfl))
 | fail)
        refine ⟨(k + 1, true), rfl, rfl, by dsimp only; omega, by dsimp only; omega⟩
    | succ q =>
      obtain ⟨y, hy⟩ := get_of_lt (xs := S) (k := q) (by omega)
      have hyc := evsE_get hy
      have ei : (((q + 1 : Nat) : Int) - 1).toNat = q := by omega
      rw [← ei] at hyc
      have hle := less32_c x y
      cases hlt : ltE x y with
      | true =>
        rw [hlt] at hle
        repeat' (first
 | (with_reducible apply EvK.seq)
 | (with_reducible apply EvK.block)
 | ((with_reducible apply EvK.text); (try case hm => exact rfl))
 | ((with_reducible apply EvK.drawn); (case hm => exact rfl))
 | (with_reducible apply EvK.skip)
 | (with_reducible apply thenK_n)
 | ((with_reducible apply EvK.cond_t); (case hc => exact rfl))
 | ((with_reducible apply EvO.spd_t); (case hp => first | assumption | omega))
 | (with_reducible apply EvO.nilT)
 | (with_reducible apply EvO.nilB)
 | ((with_reducible apply EvO.gt0); (case hW => exact rfl); (case hx => first
 | ((with_reducible apply OpR.mv); (conv => lhs; whnf); try exact rfl)
 | ((with_reducible apply OpR.callF); (case hcal => exact rfl); (case hav => exact rfl); (case hx => exact rfl); (case hh => exact rfl); (case hm => exact rfl); (case hcl => exact hle); (case hr => exact rfl))
 | ((with_reducible apply OpR.sub); (case hx => exact rfl); (case hy => exact rfl); (case h => omega))
 | ((with_reducible apply OpR.ix); (case he => first | (with_reducible exact el0) | (with_reducible exact el1) | (with_reducible exact el2) | (with_reducible exact el3) | (with_reducible exact el4) | (with_reducible exact el5) | (with_reducible exact el6) | (with_reducible exact el7) | exact rfl); (case hx => exact rfl); (case hi => exact rfl); (case hc => assumption); (case hz => exact rfl))
 | ((with_reducible apply OpR.ixrm); (case he => first | (with_reducible exact el0) | (with_reducible exact el1) | (with_reducible exact el2) | (with_reducible exact el3) | (with_reducible exact el4) | (with_reducible exact el5) | (with_reducible exact el6) | (with_reducible exact el7) | exact rfl); (case hx => exact rfl); (case hi => exact rfl); (case hb => exact rfl); (case h0 => first | assumption | omega); (case hq => first | assumption | omega))
 | ((with_reducible apply OpR.lds); (case hy => exact rfl); (case ht => first | (with_reducible exact sz0) | (with_reducible exact sz1) | (with_reducible exact sz2) | (with_reducible exact sz3) | (with_reducible exact sz4) | (with_reducible exact sz5) | (with_reducible exact sz6) | (with_reducible exact sz7) | (with_reducible exact sz8) | (with_reducible exact sz9)); (case hb => exact rfl); (case hk => assumption); (case hl => kernel_rfl); (case hv => (repeat' (first | exact LEq.nil | ((first | with_reducible apply LEq.cons | apply LEq.cons); (case h => (conv => lhs; whnf); try exact rfl))))))
 | exact OpR.r fun _ => rfl))
 | ((with_reducible apply EvO.u0); (case hx => first
 | ((with_reducible apply OpR.mv); (conv => lhs; whnf); try exact rfl)
 | ((with_reducible apply OpR.asg); (conv => lhs; whnf); try exact rfl)
 | ((with_reducible apply OpR.pk_t); (case hc => exact rfl); (case h => (conv => lhs; whnf); try exact rfl))
 | ((with_reducible apply OpR.sub); (case hx => exact rfl); (case hy => exact rfl); (case h => omega))
 | exact OpR.r fun _ => rfl))
 | fail)
        have eq : (q : Int) = ((q + 1 : Nat) : Int) - 1 := by omega
        refine ⟨q, by rw [eq]; rfl, rfl, ⟨by omega, fun z hz => by rw [hy] at hz; cases hz; exact hlt⟩, by omega⟩
      | false =>
        rw [hlt] at hle
        have hfin := insR_one_at ltE_ord hss (i := q + 1) (by omega) (fun z h0 hz => by rw [show q + 1 - 1 = q by omega, hy] at hz; cases hz; exact hlt) g2
        rw [← hit] at hfin
        rcases Nat.lt_or_ge (q + 1) S.length with hp | hp
        ·
          have e1 := view_lo (r := 0) (sz := 13) (n := (evsE S).length) (q := q + 1) (k := .i64) (by omega) (by rw [hSE]; exact hp)
          have e2 := view_hi (r := 0) (sz := 13) (n := (evsE S).length) (q := q + 1) (k := .i64) (by rw [hSE]; exact hp)
          have hA : q + 1 + ((evsE S).length - (q + 1)) ≤ (evsE S).length := by omega
          have hB : ((evsE S).drop (q + 1)).take ((evsE S).length - (q + 1)) = evsE (S.drop (q + 1)) := by rw [evsE_drop, List.take_of_length_le (by rw [evsE_len, hSE]; simp)]
          have hokD := newsE (S.drop (q + 1))
          have hlD : lenOk (([] : List (List AV)).length + (evsE (S.drop (q + 1))).length) 120 = true := lenE (by rw [evsE_len]; simp; omega)
          have hl1 : lenOk (q + 1 + 1) 120 = true := lenE (by omega)
          have hv1 : (evsE S).take (q + 1) ++ [evCs x] = evsE (S.take (q + 1) ++ [x]) := by rw [evsE_take]; exact evsE_app _ [x]
          have hl2 : lenOk ((evsE (S.take (q + 1) ++ [x])).length + (evsE (S.drop (q + 1))).length) 120 = true := lenE (by rw [evsE_len, evsE_len]; simp; omega)
          have hv2 : evsE (S.take (q + 1) ++ [x]) ++ evsE (S.drop (q + 1)) = evsE (isort ltE (l.take (k + 1))) := by rw [evsE_app, hfin]; simp
          repeat' (first
 | (with_reducible apply EvK.seq)
 | ((with_reducible apply EvK.hoi (e' := [9, 10]) (k := 9)); (case hm => exact rfl); (case he => exact rfl); (case hk => exact rfl); (case hl => (simp only [hoist, List.getElem?_toArray, List.getElem?_cons_succ, List.getElem?_cons_zero, List.take_succ_cons, List.take_zero, List.drop_succ_cons, List.drop_zero, List.map_cons, List.map_nil, List.cons_append, List.nil_append, hoO, hoI, Option.map_some, Option.map_none]; exact rfl)))
 | ((with_reducible apply EvK.text); (try case hm => exact rfl))
 | ((with_reducible apply EvK.drawn); (case hm => exact rfl))
 | (with_reducible apply EvK.exit)
 | (with_reducible apply thenK_n)
 | (with_reducible apply thenK_e)
 | (with_reducible apply blockK_h)
 | ((with_reducible apply EvK.cond_f); (case hc => exact rfl))
 | ((with_reducible apply EvO.spd_t); (case hp => first | assumption | omega))
 | (with_reducible apply EvO.nilT)
 | (with_reducible apply EvO.nilB)
 | ((with_reducible apply EvO.u); (case hx => ((with_reducible apply OpR.apr); (case hs => exact fun _ => rfl); (case ha => exact rfl); (case ht => exact rfl); (case hr => first | (with_reducible exact rw0) | (with_reducible exact rw1) | (with_reducible exact rw2) | (with_reducible exact rw3) | (with_reducible exact rw4) | exact rfl); (case hx => exact rfl); (case hy => exact rfl); (case hn => exact (lvOf_get rfl hA hB)); (case hb => exact rfl); (case hok => exact hokD); (case hlen => exact hlD); (case hv => exact rfl); (case hk => (repeat' (first | exact KFr.nil | (with_reducible apply KFr.row) | (with_reducible apply KFr.boxt) | ((apply KFr.box); (case hd => (repeat' (first | exact LEq.nil | ((first | with_reducible apply LEq.cons | apply LEq.cons); (case h => (conv => lhs; whnf); try exact rfl))))))))); (case hf => (repeat' (first | exact LEq.nil | ((first | with_reducible apply LEq.cons | apply LEq.cons); (case h => (conv => lhs; whnf); try exact rfl))))))))
 | ((with_reducible apply EvO.u); (case hx => ((with_reducible apply OpR.apl); (case hs => exact fun _ => rfl); (case ha => exact rfl); (case ht => exact rfl); (case hr => first | (with_reducible exact rw0) | (with_reducible exact rw1) | (with_reducible exact rw2) | (with_reducible exact rw3) | (with_reducible exact rw4) | exact rfl); (case hx => exact rfl); (case hy => exact rfl); (case hn => exact rfl); (case hb => exact rfl); (case hok => exact hx1); (case hle => omega); (case hlen => exact hl1); (case hv => exact hv1); (case hk => (repeat' (first | exact KFr.nil | (with_reducible apply KFr.row) | (with_reducible apply KFr.boxt) | ((apply KFr.box); (case hd => (repeat' (first | exact LEq.nil | ((first | with_reducible apply LEq.cons | apply LEq.cons); (case h => (conv => lhs; whnf); try exact rfl))))))))); (case hf => (repeat' (first | exact LEq.nil | ((first | with_reducible apply LEq.cons | apply LEq.cons); (case h => (conv => lhs; whnf); try exact rfl))))))))
 | ((with_reducible apply EvO.u); (case hx => ((with_reducible apply OpR.apr); (case hs => exact fun _ => rfl); (case ha => exact rfl); (case ht => exact rfl); (case hr => first | (with_reducible exact rw0) | (with_reducible exact rw1) | (with_reducible exact rw2) | (with_reducible exact rw3) | (with_reducible exact rw4) | exact rfl); (case hx => exact rfl); (case hy => exact rfl); (case hn => exact rfl); (case hb => exact rfl); (case hok => exact hokD); (case hlen => exact hl2); (case hv => exact hv2); (case hk => (repeat' (first | exact KFr.nil | (with_reducible apply KFr.row) | (with_reducible apply KFr.boxt) | ((apply KFr.box); (case hd => (repeat' (first | exact LEq.nil | ((first | with_reducible apply LEq.cons | apply LEq.cons); (case h => (conv => lhs; whnf); try exact rfl))))))))); (case hf => (repeat' (first | exact LEq.nil | ((first | with_reducible apply LEq.cons | apply LEq.cons); (case h => (conv => lhs; whnf); try exact rfl))))))))
 | ((with_reducible apply EvO.gt0); (case hW => exact rfl); (case hx => first
 | ((with_reducible apply OpR.mv); (conv => lhs; whnf); try exact rfl)
 | ((with_reducible apply OpR.callF); (case hcal => exact rfl); (case hav => exact rfl); (case hx => exact rfl); (case hh => exact rfl); (case hm => exact rfl); (case hcl => exact hle); (case hr => exact rfl))
 | ((with_reducible apply OpR.sub); (case hx => exact rfl); (case hy => exact rfl); (case h => omega))
 | ((with_reducible apply OpR.ix); (case he => first | (with_reducible exact el0) | (with_reducible exact el1) | (with_reducible exact el2) | (with_reducible exact el3) | (with_reducible exact el4) | (with_reducible exact el5) | (with_reducible exact el6) | (with_reducible exact el7) | exact rfl); (case hx => exact rfl); (case hi => exact rfl); (case hc => assumption); (case hz => exact rfl))
 | ((with_reducible apply OpR.ixrm); (case he => first | (with_reducible exact el0) | (with_reducible exact el1) | (with_reducible exact el2) | (with_reducible exact el3) | (with_reducible exact el4) | (with_reducible exact el5) | (with_reducible exact el6) | (with_reducible exact el7) | exact rfl); (case hx => exact rfl); (case hi => exact rfl); (case hb => exact rfl); (case h0 => first | assumption | omega); (case hq => first | assumption | omega))
 | ((with_reducible apply OpR.lds); (case hy => exact rfl); (case ht => first | (with_reducible exact sz0) | (with_reducible exact sz1) | (with_reducible exact sz2) | (with_reducible exact sz3) | (with_reducible exact sz4) | (with_reducible exact sz5) | (with_reducible exact sz6) | (with_reducible exact sz7) | (with_reducible exact sz8) | (with_reducible exact sz9)); (case hb => exact rfl); (case hk => assumption); (case hl => kernel_rfl); (case hv => (repeat' (first | exact LEq.nil | ((first | with_reducible apply LEq.cons | apply LEq.cons); (case h => (conv => lhs; whnf); try exact rfl))))))
 | exact OpR.r fun _ => rfl))
 | ((with_reducible apply EvO.u0); (case hx => first
 | ((with_reducible apply OpR.mv); (conv => lhs; whnf); try exact rfl)
 | ((with_reducible apply OpR.asg); (conv => lhs; whnf); try exact rfl)
 | ((with_reducible apply OpR.pk_t); (case hc => exact rfl); (case h => (conv => lhs; whnf); try exact rfl))
 | ((with_reducible apply OpR.slv); (case he => first | (with_reducible exact el0) | (with_reducible exact el1) | (with_reducible exact el2) | (with_reducible exact el3) | (with_reducible exact el4) | (with_reducible exact el5) | (with_reducible exact el6) | (with_reducible exact el7) | exact rfl); (case hx => exact rfl); (case hl => exact rfl); (case hh => exact rfl); (case hb => exact rfl); (case hv => exact e1))
 | ((with_reducible apply OpR.slv); (case he => first | (with_reducible exact el0) | (with_reducible exact el1) | (with_reducible exact el2) | (with_reducible exact el3) | (with_reducible exact el4) | (with_reducible exact el5) | (with_reducible exact el6) | (with_reducible exact el7) | exact rfl); (case hx => exact rfl); (case hl => exact rfl); (case hh => exact rfl); (case hb => exact rfl); (case hv => exact e2))
 | ((with_reducible apply OpR.inc); (case hx => exact rfl); (case hy => exact rfl); (case h => omega))
 | ((with_reducible apply OpR.ix); (case he => first | (with_reducible exact el0) | (with_reducible exact el1) | (with_reducible exact el2) | (with_reducible exact el3) | (with_reducible exact el4) | (with_reducible exact el5) | (with_reducible exact el6) | (with_reducible exact el7) | exact rfl); (case hx => exact rfl); (case hi => exact rfl); (case hc => assumption); (case hz => exact rfl))
 | ((with_reducible apply OpR.bs0); (case hs => exact fun _ => rfl); (case hr => first | (with_reducible exact rw0) | (with_reducible exact rw1) | (with_reducible exact rw2) | (with_reducible exact rw3) | (with_reducible exact rw4) | exact rfl); (case hn => (first | exact ln0 | exact ln1 | exact ln2 | exact ln3 | exact ln4 | exact ln5 | exact ln6 | exact ln7 | exact ln8 | exact ln9 | exact ln10 | exact ln11 | exact ln12 | exact ln13 | exact ln14)); (case hf => (repeat' (first | exact LEq.nil | ((first | with_reducible apply LEq.cons | apply LEq.cons); (case h => (conv => lhs; whnf); try exact rfl))))))
 | exact OpR.r fun _ => rfl))
 | fail)
          refine ⟨(k + 1, true), rfl, rfl, by dsimp only; omega, by dsimp only; omega⟩
        ·
          have e1 := view_loN (r := 0) (sz := 13) (n := (evsE S).length) (q := q + 1) (k := .i64) (by omega) (by rw [hSE]; omega)
          have e2 := view_hiN (r := 0) (sz := 13) (n := (evsE S).length) (q := q + 1) (k := .i64) (by rw [hSE]; omega)
          have hl1 : lenOk ((evsE S).length + 1) 120 = true := lenE (by rw [hSE]; omega)
          have hv1 : evsE S ++ [evCs x] = evsE (S ++ [x]) := evsE_app _ [x]
          have hl2 : lenOk ((evsE (S ++ [x])).length + ([] : List (List AV)).length) 120 = true := lenE (by rw [evsE_len]; simp; omega)
          have hv2 : evsE (S ++ [x]) ++ [] = evsE (isort ltE (l.take (k + 1))) := by rw [List.append_nil, hfin, List.take_of_length_le hp, List.drop_eq_nil_of_le hp]
          repeat' (first
 | (with_reducible apply EvK.seq)
 | ((with_reducible apply EvK.hoi (e' := [9, 10]) (k := 9)); (case hm => exact rfl); (case he => exact rfl); (case hk => exact rfl); (case hl => (simp only [hoist, List.getElem?_toArray, List.getElem?_cons_succ, List.getElem?_cons_zero, List.take_succ_cons, List.take_zero, List.drop_succ_cons, List.drop_zero, List.map_cons, List.map_nil, List.cons_append, List.nil_append, hoO, hoI, Option.map_some, Option.map_none]; exact rfl)))
 | ((with_reducible apply EvK.text); (try case hm => exact rfl))
 | ((with_reducible apply EvK.drawn); (case hm => exact rfl))
 | (with_reducible apply EvK.exit)
 | (with_reducible apply thenK_n)
 | (with_reducible apply thenK_e)
 | (with_reducible apply blockK_h)
 | ((with_reducible apply EvK.cond_f); (case hc => exact rfl))
 | ((with_reducible apply EvO.spd_t); (case hp => first | assumption | omega))
 | (with_reducible apply EvO.nilT)
 | (with_reducible apply EvO.nilB)
 | ((with_reducible apply EvO.u); (case hx => ((with_reducible apply OpR.apr); (case hs => exact fun _ => rfl); (case ha => exact rfl); (case ht => exact rfl); (case hr => first | (with_reducible exact rw0) | (with_reducible exact rw1) | (with_reducible exact rw2) | (with_reducible exact rw3) | (with_reducible exact rw4) | exact rfl); (case hx => exact rfl); (case hy => exact rfl); (case hn => exact rfl); (case hb => exact rfl); (case hok => exact hok0); (case hlen => exact hl00); (case hv => exact rfl); (case hk => (repeat' (first | exact KFr.nil | (with_reducible apply KFr.row) | (with_reducible apply KFr.boxt) | ((apply KFr.box); (case hd => (repeat' (first | exact LEq.nil | ((first | with_reducible apply LEq.cons | apply LEq.cons); (case h => (conv => lhs; whnf); try exact rfl))))))))); (case hf => (repeat' (first | exact LEq.nil | ((first | with_reducible apply LEq.cons | apply LEq.cons); (case h => (conv => lhs; whnf); try exact rfl))))))))
 | ((with_reducible apply EvO.u); (case hx => ((with_reducible apply OpR.apr); (case hs => exact fun _ => rfl); (case ha => exact rfl); (case ht => exact rfl); (case hr => first | (with_reducible exact rw0) | (with_reducible exact rw1) | (with_reducible exact rw2) | (with_reducible exact rw3) | (with_reducible exact rw4) | exact rfl); (case hx => exact rfl); (case hy => exact rfl); (case hn => exact rfl); (case hb => exact rfl); (case hok => exact hx1); (case hlen => exact hl1); (case hv => exact hv1); (case hk => (repeat' (first | exact KFr.nil | (with_reducible apply KFr.row) | (with_reducible apply KFr.boxt) | ((apply KFr.box); (case hd => (repeat' (first | exact LEq.nil | ((first | with_reducible apply LEq.cons | apply LEq.cons); (case h => (conv => lhs; whnf); try exact rfl))))))))); (case hf => (repeat' (first | exact LEq.nil | ((first | with_reducible apply LEq.cons | apply LEq.cons); (case h => (conv => lhs; whnf); try exact rfl))))))))
 | ((with_reducible apply EvO.u); (case hx => ((with_reducible apply OpR.apr); (case hs => exact fun _ => rfl); (case ha => exact rfl); (case ht => exact rfl); (case hr => first | (with_reducible exact rw0) | (with_reducible exact rw1) | (with_reducible exact rw2) | (with_reducible exact rw3) | (with_reducible exact rw4) | exact rfl); (case hx => exact rfl); (case hy => exact rfl); (case hn => exact rfl); (case hb => exact rfl); (case hok => exact hok0); (case hlen => exact hl2); (case hv => exact hv2); (case hk => (repeat' (first | exact KFr.nil | (with_reducible apply KFr.row) | (with_reducible apply KFr.boxt) | ((apply KFr.box); (case hd => (repeat' (first | exact LEq.nil | ((first | with_reducible apply LEq.cons | apply LEq.cons); (case h => (conv => lhs; whnf); try exact rfl))))))))); (case hf => (repeat' (first | exact LEq.nil | ((first | with_reducible apply LEq.cons | apply LEq.cons); (case h => (conv => lhs; whnf); try exact rfl))))))))
 | ((with_reducible apply EvO.gt0); (case hW => exact rfl); (case hx => first
 | ((with_reducible apply OpR.mv); (conv => lhs; whnf); try exact rfl)
 | ((with_reducible apply OpR.callF); (case hcal => exact rfl); (case hav => exact rfl); (case hx => exact rfl); (case hh => exact rfl); (case hm => exact rfl); (case hcl => exact hle); (case hr => exact rfl))
 | ((with_reducible apply OpR.sub); (case hx => exact rfl); (case hy => exact rfl); (case h => omega))
 | ((with_reducible apply OpR.ix); (case he => first | (with_reducible exact el0) | (with_reducible exact el1) | (with_reducible exact el2) | (with_reducible exact el3) | (with_reducible exact el4) | (with_reducible exact el5) | (with_reducible exact el6) | (with_reducible exact el7) | exact rfl); (case hx => exact rfl); (case hi => exact rfl); (case hc => assumption); (case hz => exact rfl))
 | ((with_reducible apply OpR.ixrm); (case he => first | (with_reducible exact el0) | (with_reducible exact el1) | (with_reducible exact el2) | (with_reducible exact el3) | (with_reducible exact el4) | (with_reducible exact el5) | (with_reducible exact el6) | (with_reducible exact el7) | exact rfl); (case hx => exact rfl); (case hi => exact rfl); (case hb => exact rfl); (case h0 => first | assumption | omega); (case hq => first | assumption | omega))
 | ((with_reducible apply OpR.lds); (case hy => exact rfl); (case ht => first | (with_reducible exact sz0) | (with_reducible exact sz1) | (with_reducible exact sz2) | (with_reducible exact sz3) | (with_reducible exact sz4) | (with_reducible exact sz5) | (with_reducible exact sz6) | (with_reducible exact sz7) | (with_reducible exact sz8) | (with_reducible exact sz9)); (case hb => exact rfl); (case hk => assumption); (case hl => kernel_rfl); (case hv => (repeat' (first | exact LEq.nil | ((first | with_reducible apply LEq.cons | apply LEq.cons); (case h => (conv => lhs; whnf); try exact rfl))))))
 | exact OpR.r fun _ => rfl))
 | ((with_reducible apply EvO.u0); (case hx => first
 | ((with_reducible apply OpR.mv); (conv => lhs; whnf); try exact rfl)
 | ((with_reducible apply OpR.asg); (conv => lhs; whnf); try exact rfl)
 | ((with_reducible apply OpR.pk_t); (case hc => exact rfl); (case h => (conv => lhs; whnf); try exact rfl))
 | ((with_reducible apply OpR.slv); (case he => first | (with_reducible exact el0) | (with_reducible exact el1) | (with_reducible exact el2) | (with_reducible exact el3) | (with_reducible exact el4) | (with_reducible exact el5) | (with_reducible exact el6) | (with_reducible exact el7) | exact rfl); (case hx => exact rfl); (case hl => exact rfl); (case hh => exact rfl); (case hb => exact rfl); (case hv => exact e1))
 | ((with_reducible apply OpR.slv); (case he => first | (with_reducible exact el0) | (with_reducible exact el1) | (with_reducible exact el2) | (with_reducible exact el3) | (with_reducible exact el4) | (with_reducible exact el5) | (with_reducible exact el6) | (with_reducible exact el7) | exact rfl); (case hx => exact rfl); (case hl => exact rfl); (case hh => exact rfl); (case hb => exact rfl); (case hv => exact e2))
 | ((with_reducible apply OpR.inc); (case hx => exact rfl); (case hy => exact rfl); (case h => omega))
 | ((with_reducible apply OpR.ix); (case he => first | (with_reducible exact el0) | (with_reducible exact el1) | (with_reducible exact el2) | (with_reducible exact el3) | (with_reducible exact el4) | (with_reducible exact el5) | (with_reducible exact el6) | (with_reducible exact el7) | exact rfl); (case hx => exact rfl); (case hi => exact rfl); (case hc => assumption); (case hz => exact rfl))
 | ((with_reducible apply OpR.bs0); (case hs => exact fun _ => rfl); (case hr => first | (with_reducible exact rw0) | (with_reducible exact rw1) | (with_reducible exact rw2) | (with_reducible exact rw3) | (with_reducible exact rw4) | exact rfl); (case hn => (first | exact ln0 | exact ln1 | exact ln2 | exact ln3 | exact ln4 | exact ln5 | exact ln6 | exact ln7 | exact ln8 | exact ln9 | exact ln10 | exact ln11 | exact ln12 | exact ln13 | exact ln14)); (case hf => (repeat' (first | exact LEq.nil | ((first | with_reducible apply LEq.cons | apply LEq.cons); (case h => (conv => lhs; whnf); try exact rfl))))))
 | exact OpR.r fun _ => rfl))
 | fail)
          refine ⟨(k + 1, true), rfl, rfl, by dsimp only; omega, by dsimp only; omega⟩
  ·
    rw [List.take_of_length_le h3]
    repeat' (first
 | (with_reducible apply EvK.seq)
 | ((with_reducible apply EvK.text); (try case hm => exact rfl))
 | (with_reducible apply EvK.exit)
 | (with_reducible apply EvK.ret)
 | (with_reducible apply thenK_n)
 | (with_reducible apply thenK_e)
 | (with_reducible apply blockK_h)
 | ((with_reducible apply EvK.cond_f); (case hc => exact rfl))
 | ((with_reducible apply EvO.spd_f); (case hp => first | assumption | omega))
 | (with_reducible apply EvO.nilT)
 | ((with_reducible apply EvO.u0); (case hx => first
 | ((with_reducible apply OpR.mv); (conv => lhs; whnf); try exact rfl)
 | ((with_reducible apply OpR.asg); (conv => lhs; whnf); try exact rfl)
 | ((with_reducible apply OpR.len); (case ha => exact rfl); (case hy => exact rfl); (case ht => exact rfl); (case hs => exact rfl); (case hn => first | exact List.length_map _ | exact rfl))
 | exact OpR.r fun _ => rfl))
 | fail)
    exact ⟨.inr rfl, rfl⟩
end Go.Proofs.YtgbfedgghjcdcaaGreatDoor

namespace Go.Proofs.YtgbfedgghjcdcaaGreatDoor
set_option linter.unusedSimpArgs false
set_option linter.unusedVariables false
set_option linter.unusedSectionVars false
open Go.RowKit
set_option maxRecDepth 100000
set_option maxHeartbeats 32000000

theorem sets_g {l : List Ev} {c X : List Int} {m : Int} (hl : l.length ≤ 60) (hp : ∀ e ∈ l, e.past.length ≤ 8) (hc8 : c.length ≤ 8) (hX : X.length ≤ 8) (ka : Cl cfg 10 [] [] (.t (.bool true)) []) (kf : Cl cfg 11 [.t (.agg [.arr [], .arr [], .arr [], .arr [], .arr [], .arr [], .arr []]), .t (.arr (evsE l))] [] (.t (.bool true)) [])
    (k1 : Cl cfg 25 [.t (.int .i64 m), .t (.arr (evsE l))] [] (.tup [.ls 0, .t (.int .i64 0)]) [.row false false 1 (intsE X)]) (k2 : Cl cfg 39 [.t (.int .i64 m), .t (.arr (evsE l))] [] (.tup [.ls 0, .t (.int .i64 0)]) [.row false false 1 (intsE X)]) :
    Cl cfg 8 [.t (.arr (evsE l)), .t (intsA c), .t (.int .i64 m)] [] (.t (.bool true)) [] := by
  have hcE := intsE_len c
  have kc := closed_c (l := l) (by omega) (fun e he => by have := hp e he; omega)
  have kd := rclosed_c (l := l) (by omega) (fun e he => by have := hp e he; omega)
  have ke : Cl cfg 36 [.t (.arr (intsE X)), .t (.arr (intsE X))] [] (.t (.bool true)) [] := eqs_c (by omega) (by omega) rfl
  have ko2 := rorder_c (l := l) (by omega)
  have ks := same_c (l := ordE l) (by rw [ordE_len]; omega) (fun e he => by have := hp e (ordE_mem.1 he); omega)
  have kt := ecut_c (l := l) (c := c) (by omega) (by omega)
  have kt2 := rcut_c (l := l) (c := c) (by omega) (by omega)
  have ks2 := same_c (l := cutE l c) (Nat.le_trans (List.length_filter_le _ _) (by omega)) (fun e he => by have := hp e (List.mem_filter.1 he).1; omega)
  obtain ⟨C, hC⟩ : ∃ C, cutE l c = C := ⟨_, rfl⟩
  obtain ⟨b, hb⟩ : ∃ b, closedB l = b := ⟨_, rfl⟩
  rw [hb] at kc kd
  rw [hC] at kt kt2 ks2
  match l, hl, ko2, ks, kf, k1, k2, kc, kd, kt, kt2 with
  | [], hl, ko2, ks, kf, k1, k2, kc, kd, kt, kt2 =>
    have hz : ([] : List (List AV)).length = 0 := rfl
    have e0 : evsE [] = [] := rfl
    have e1 : ordE [] = [] := rfl
    rw [e1] at ko2 ks
    rw [e0] at *
    refine Cl.of_body rfl Tryz.func8 rfl rfl rfl ?_
    cases b <;>
    repeat' (first
 | (with_reducible apply EvK.seq)
 | ((with_reducible apply EvK.text); (try case hm => exact rfl))
 | (with_reducible apply EvK.skip)
 | (with_reducible apply EvK.ret)
 | (with_reducible apply thenK_n)
 | ((with_reducible apply EvK.cond_f); (case hc => exact rfl))
 | ((with_reducible apply EvO.spd_yt); (case hp => first | assumption | omega))
 | ((with_reducible apply EvO.spd_yf); (case hp => first | assumption | omega))
 | (with_reducible apply EvO.nilT)
 | ((with_reducible apply EvO.gt0); (case hW => exact rfl); (case hx => first
 | ((with_reducible apply OpR.mv); (conv => lhs; whnf); try exact rfl)
 | ((with_reducible apply OpR.callF); (case hcal => exact rfl); (case hav => exact rfl); (case hx => exact rfl); (case hh => exact rfl); (case hm => exact rfl); (case hcl => exact ke); (case hr => exact rfl))
 | ((with_reducible apply OpR.callN); (case hcal => exact rfl); (case hav => exact rfl); (case hx => exact rfl); (case hh => exact rfl); (case hm => exact rfl); (case hcl => exact order_n); (case hn => exact rfl); (case hr => exact rfl))
 | ((with_reducible apply OpR.callX); (case hcal => exact rfl); (case hav => exact rfl); (case hx => exact rfl); (case hh => exact rfl); (case hm => exact rfl); (case hcl => exact ko2); (case hr => exact rfl); (case hd => exact rfl); (case hq => kernel_rfl); (case hn => (first | exact ln0 | exact ln1 | exact ln2 | exact ln3 | exact ln4 | exact ln5 | exact ln6 | exact ln7 | exact ln8 | exact ln9 | exact ln10 | exact ln11 | exact ln12 | exact ln13 | exact ln14)); (case hv => (conv => lhs; whnf); try exact rfl); (case he => (repeat' (first | exact XFr.nil | (with_reducible apply XFr.row) | (with_reducible apply XFr.boxt) | ((apply XFr.box); (case hd => (repeat' (first | exact LEq.nil | ((first | with_reducible apply LEq.cons | apply LEq.cons); (case h => (conv => lhs; whnf); try exact rfl))))))))); (case hf => (repeat' (first | exact LEq.nil | ((first | with_reducible apply LEq.cons | apply LEq.cons); (case h => (conv => lhs; whnf); try exact rfl))))))
 | ((with_reducible apply OpR.callF); (case hcal => exact rfl); (case hav => exact rfl); (case hx => exact rfl); (case hh => exact rfl); (case hm => exact rfl); (case hcl => exact ks); (case hr => exact rfl))
 | ((with_reducible apply OpR.callX); (case hcal => exact rfl); (case hav => exact rfl); (case hx => exact rfl); (case hh => exact rfl); (case hm => exact rfl); (case hcl => exact kt); (case hr => exact rfl); (case hd => exact rfl); (case hq => kernel_rfl); (case hn => (first | exact ln0 | exact ln1 | exact ln2 | exact ln3 | exact ln4 | exact ln5 | exact ln6 | exact ln7 | exact ln8 | exact ln9 | exact ln10 | exact ln11 | exact ln12 | exact ln13 | exact ln14)); (case hv => (conv => lhs; whnf); try exact rfl); (case he => (repeat' (first | exact XFr.nil | (with_reducible apply XFr.row) | (with_reducible apply XFr.boxt) | ((apply XFr.box); (case hd => (repeat' (first | exact LEq.nil | ((first | with_reducible apply LEq.cons | apply LEq.cons); (case h => (conv => lhs; whnf); try exact rfl))))))))); (case hf => (repeat' (first | exact LEq.nil | ((first | with_reducible apply LEq.cons | apply LEq.cons); (case h => (conv => lhs; whnf); try exact rfl))))))
 | ((with_reducible apply OpR.callX); (case hcal => exact rfl); (case hav => exact rfl); (case hx => exact rfl); (case hh => exact rfl); (case hm => exact rfl); (case hcl => exact kt2); (case hr => exact rfl); (case hd => exact rfl); (case hq => kernel_rfl); (case hn => (first | exact ln0 | exact ln1 | exact ln2 | exact ln3 | exact ln4 | exact ln5 | exact ln6 | exact ln7 | exact ln8 | exact ln9 | exact ln10 | exact ln11 | exact ln12 | exact ln13 | exact ln14)); (case hv => (conv => lhs; whnf); try exact rfl); (case he => (repeat' (first | exact XFr.nil | (with_reducible apply XFr.row) | (with_reducible apply XFr.boxt) | ((apply XFr.box); (case hd => (repeat' (first | exact LEq.nil | ((first | with_reducible apply LEq.cons | apply LEq.cons); (case h => (conv => lhs; whnf); try exact rfl))))))))); (case hf => (repeat' (first | exact LEq.nil | ((first | with_reducible apply LEq.cons | apply LEq.cons); (case h => (conv => lhs; whnf); try exact rfl))))))
 | ((with_reducible apply OpR.callF); (case hcal => exact rfl); (case hav => exact rfl); (case hx => exact rfl); (case hh => exact rfl); (case hm => exact rfl); (case hcl => exact ks2); (case hr => exact rfl))
 | ((with_reducible apply OpR.len); (case ha => exact rfl); (case hy => exact rfl); (case ht => exact rfl); (case hs => exact rfl); (case hn => first | exact List.length_map _ | exact rfl))
 | exact OpR.r fun _ => rfl))
 | ((with_reducible apply EvO.u0); (case hx => first
 | ((with_reducible apply OpR.mv); (conv => lhs; whnf); try exact rfl)
 | ((with_reducible apply OpR.asg); (conv => lhs; whnf); try exact rfl)
 | ((with_reducible apply OpR.pk_t); (case hc => exact rfl); (case h => (conv => lhs; whnf); try exact rfl))
 | ((with_reducible apply OpR.pk_f); (case hc => exact rfl); (case h => (conv => lhs; whnf); try exact rfl))
 | ((with_reducible apply OpR.callF); (case hcal => exact rfl); (case hav => exact rfl); (case hx => exact rfl); (case hh => exact rfl); (case hm => exact rfl); (case hcl => exact ka); (case hr => exact rfl))
 | ((with_reducible apply OpR.callF); (case hcal => exact rfl); (case hav => exact rfl); (case hx => exact rfl); (case hh => exact rfl); (case hm => exact rfl); (case hcl => exact kf); (case hr => exact rfl))
 | ((with_reducible apply OpR.callX); (case hcal => exact rfl); (case hav => exact rfl); (case hx => exact rfl); (case hh => exact rfl); (case hm => exact rfl); (case hcl => exact k1); (case hr => exact rfl); (case hd => exact rfl); (case hq => kernel_rfl); (case hn => (first | exact ln0 | exact ln1 | exact ln2 | exact ln3 | exact ln4 | exact ln5 | exact ln6 | exact ln7 | exact ln8 | exact ln9 | exact ln10 | exact ln11 | exact ln12 | exact ln13 | exact ln14)); (case hv => (conv => lhs; whnf); try exact rfl); (case he => (repeat' (first | exact XFr.nil | (with_reducible apply XFr.row) | (with_reducible apply XFr.boxt) | ((apply XFr.box); (case hd => (repeat' (first | exact LEq.nil | ((first | with_reducible apply LEq.cons | apply LEq.cons); (case h => (conv => lhs; whnf); try exact rfl))))))))); (case hf => (repeat' (first | exact LEq.nil | ((first | with_reducible apply LEq.cons | apply LEq.cons); (case h => (conv => lhs; whnf); try exact rfl))))))
 | ((with_reducible apply OpR.callX); (case hcal => exact rfl); (case hav => exact rfl); (case hx => exact rfl); (case hh => exact rfl); (case hm => exact rfl); (case hcl => exact k2); (case hr => exact rfl); (case hd => exact rfl); (case hq => kernel_rfl); (case hn => (first | exact ln0 | exact ln1 | exact ln2 | exact ln3 | exact ln4 | exact ln5 | exact ln6 | exact ln7 | exact ln8 | exact ln9 | exact ln10 | exact ln11 | exact ln12 | exact ln13 | exact ln14)); (case hv => (conv => lhs; whnf); try exact rfl); (case he => (repeat' (first | exact XFr.nil | (with_reducible apply XFr.row) | (with_reducible apply XFr.boxt) | ((apply XFr.box); (case hd => (repeat' (first | exact LEq.nil | ((first | with_reducible apply LEq.cons | apply LEq.cons); (case h => (conv => lhs; whnf); try exact rfl))))))))); (case hf => (repeat' (first | exact LEq.nil | ((first | with_reducible apply LEq.cons | apply LEq.cons); (case h => (conv => lhs; whnf); try exact rfl))))))
 | ((with_reducible apply OpR.callF); (case hcal => exact rfl); (case hav => exact rfl); (case hx => exact rfl); (case hh => exact rfl); (case hm => exact rfl); (case hcl => exact kc); (case hr => exact rfl))
 | ((with_reducible apply OpR.callF); (case hcal => exact rfl); (case hav => exact rfl); (case hx => exact rfl); (case hh => exact rfl); (case hm => exact rfl); (case hcl => exact kd); (case hr => exact rfl))
 | exact OpR.r fun _ => rfl))
 | fail)
    all_goals exact ⟨.inr rfl, rfl⟩
  | e :: l', hl, ko2, ks, kf, k1, k2, kc, kd, kt, kt2 =>
    have ko := order_c (e := e) (l := l') (by simp at hl; omega)
    obtain ⟨O, hO⟩ : ∃ O, ordE (e :: l') = O := ⟨_, rfl⟩
    obtain ⟨Z, hZ⟩ : ∃ Z, evsE (e :: l') = Z := ⟨_, rfl⟩
    rw [hO] at ko ko2 ks
    rw [hZ] at ko ko2 kf k1 k2 kc kd kt kt2 ⊢
    refine Cl.of_body rfl Tryz.func8 rfl rfl rfl ?_
    cases b <;>
    repeat' (first
 | (with_reducible apply EvK.seq)
 | ((with_reducible apply EvK.text); (try case hm => exact rfl))
 | (with_reducible apply EvK.skip)
 | (with_reducible apply EvK.ret)
 | (with_reducible apply thenK_n)
 | ((with_reducible apply EvK.cond_f); (case hc => exact rfl))
 | ((with_reducible apply EvO.spd_yt); (case hp => first | assumption | omega))
 | ((with_reducible apply EvO.spd_yf); (case hp => first | assumption | omega))
 | (with_reducible apply EvO.nilT)
 | ((with_reducible apply EvO.gt0); (case hW => exact rfl); (case hx => first
 | ((with_reducible apply OpR.mv); (conv => lhs; whnf); try exact rfl)
 | ((with_reducible apply OpR.callF); (case hcal => exact rfl); (case hav => exact rfl); (case hx => exact rfl); (case hh => exact rfl); (case hm => exact rfl); (case hcl => exact ke); (case hr => exact rfl))
 | ((with_reducible apply OpR.callX); (case hcal => exact rfl); (case hav => exact rfl); (case hx => exact rfl); (case hh => exact rfl); (case hm => exact rfl); (case hcl => exact ko); (case hr => exact rfl); (case hd => exact rfl); (case hq => kernel_rfl); (case hn => (first | exact ln0 | exact ln1 | exact ln2 | exact ln3 | exact ln4 | exact ln5 | exact ln6 | exact ln7 | exact ln8 | exact ln9 | exact ln10 | exact ln11 | exact ln12 | exact ln13 | exact ln14)); (case hv => (conv => lhs; whnf); try exact rfl); (case he => (repeat' (first | exact XFr.nil | (with_reducible apply XFr.row) | (with_reducible apply XFr.boxt) | ((apply XFr.box); (case hd => (repeat' (first | exact LEq.nil | ((first | with_reducible apply LEq.cons | apply LEq.cons); (case h => (conv => lhs; whnf); try exact rfl))))))))); (case hf => (repeat' (first | exact LEq.nil | ((first | with_reducible apply LEq.cons | apply LEq.cons); (case h => (conv => lhs; whnf); try exact rfl))))))
 | ((with_reducible apply OpR.callX); (case hcal => exact rfl); (case hav => exact rfl); (case hx => exact rfl); (case hh => exact rfl); (case hm => exact rfl); (case hcl => exact ko2); (case hr => exact rfl); (case hd => exact rfl); (case hq => kernel_rfl); (case hn => (first | exact ln0 | exact ln1 | exact ln2 | exact ln3 | exact ln4 | exact ln5 | exact ln6 | exact ln7 | exact ln8 | exact ln9 | exact ln10 | exact ln11 | exact ln12 | exact ln13 | exact ln14)); (case hv => (conv => lhs; whnf); try exact rfl); (case he => (repeat' (first | exact XFr.nil | (with_reducible apply XFr.row) | (with_reducible apply XFr.boxt) | ((apply XFr.box); (case hd => (repeat' (first | exact LEq.nil | ((first | with_reducible apply LEq.cons | apply LEq.cons); (case h => (conv => lhs; whnf); try exact rfl))))))))); (case hf => (repeat' (first | exact LEq.nil | ((first | with_reducible apply LEq.cons | apply LEq.cons); (case h => (conv => lhs; whnf); try exact rfl))))))
 | ((with_reducible apply OpR.callF); (case hcal => exact rfl); (case hav => exact rfl); (case hx => exact rfl); (case hh => exact rfl); (case hm => exact rfl); (case hcl => exact ks); (case hr => exact rfl))
 | ((with_reducible apply OpR.callX); (case hcal => exact rfl); (case hav => exact rfl); (case hx => exact rfl); (case hh => exact rfl); (case hm => exact rfl); (case hcl => exact kt); (case hr => exact rfl); (case hd => exact rfl); (case hq => kernel_rfl); (case hn => (first | exact ln0 | exact ln1 | exact ln2 | exact ln3 | exact ln4 | exact ln5 | exact ln6 | exact ln7 | exact ln8 | exact ln9 | exact ln10 | exact ln11 | exact ln12 | exact ln13 | exact ln14)); (case hv => (conv => lhs; whnf); try exact rfl); (case he => (repeat' (first | exact XFr.nil | (with_reducible apply XFr.row) | (with_reducible apply XFr.boxt) | ((apply XFr.box); (case hd => (repeat' (first | exact LEq.nil | ((first | with_reducible apply LEq.cons | apply LEq.cons); (case h => (conv => lhs; whnf); try exact rfl))))))))); (case hf => (repeat' (first | exact LEq.nil | ((first | with_reducible apply LEq.cons | apply LEq.cons); (case h => (conv => lhs; whnf); try exact rfl))))))
 | ((with_reducible apply OpR.callX); (case hcal => exact rfl); (case hav => exact rfl); (case hx => exact rfl); (case hh => exact rfl); (case hm => exact rfl); (case hcl => exact kt2); (case hr => exact rfl); (case hd => exact rfl); (case hq => kernel_rfl); (case hn => (first | exact ln0 | exact ln1 | exact ln2 | exact ln3 | exact ln4 | exact ln5 | exact ln6 | exact ln7 | exact ln8 | exact ln9 | exact ln10 | exact ln11 | exact ln12 | exact ln13 | exact ln14)); (case hv => (conv => lhs; whnf); try exact rfl); (case he => (repeat' (first | exact XFr.nil | (with_reducible apply XFr.row) | (with_reducible apply XFr.boxt) | ((apply XFr.box); (case hd => (repeat' (first | exact LEq.nil | ((first | with_reducible apply LEq.cons | apply LEq.cons); (case h => (conv => lhs; whnf); try exact rfl))))))))); (case hf => (repeat' (first | exact LEq.nil | ((first | with_reducible apply LEq.cons | apply LEq.cons); (case h => (conv => lhs; whnf); try exact rfl))))))
 | ((with_reducible apply OpR.callF); (case hcal => exact rfl); (case hav => exact rfl); (case hx => exact rfl); (case hh => exact rfl); (case hm => exact rfl); (case hcl => exact ks2); (case hr => exact rfl))
 | ((with_reducible apply OpR.len); (case ha => exact rfl); (case hy => exact rfl); (case ht => exact rfl); (case hs => exact rfl); (case hn => first | exact List.length_map _ | exact rfl))
 | exact OpR.r fun _ => rfl))
 | ((with_reducible apply EvO.u0); (case hx => first
 | ((with_reducible apply OpR.mv); (conv => lhs; whnf); try exact rfl)
 | ((with_reducible apply OpR.asg); (conv => lhs; whnf); try exact rfl)
 | ((with_reducible apply OpR.pk_t); (case hc => exact rfl); (case h => (conv => lhs; whnf); try exact rfl))
 | ((with_reducible apply OpR.pk_f); (case hc => exact rfl); (case h => (conv => lhs; whnf); try exact rfl))
 | ((with_reducible apply OpR.callF); (case hcal => exact rfl); (case hav => exact rfl); (case hx => exact rfl); (case hh => exact rfl); (case hm => exact rfl); (case hcl => exact ka); (case hr => exact rfl))
 | ((with_reducible apply OpR.callF); (case hcal => exact rfl); (case hav => exact rfl); (case hx => exact rfl); (case hh => exact rfl); (case hm => exact rfl); (case hcl => exact kf); (case hr => exact rfl))
 | ((with_reducible apply OpR.callX); (case hcal => exact rfl); (case hav => exact rfl); (case hx => exact rfl); (case hh => exact rfl); (case hm => exact rfl); (case hcl => exact k1); (case hr => exact rfl); (case hd => exact rfl); (case hq => kernel_rfl); (case hn => (first | exact ln0 | exact ln1 | exact ln2 | exact ln3 | exact ln4 | exact ln5 | exact ln6 | exact ln7 | exact ln8 | exact ln9 | exact ln10 | exact ln11 | exact ln12 | exact ln13 | exact ln14)); (case hv => (conv => lhs; whnf); try exact rfl); (case he => (repeat' (first | exact XFr.nil | (with_reducible apply XFr.row) | (with_reducible apply XFr.boxt) | ((apply XFr.box); (case hd => (repeat' (first | exact LEq.nil | ((first | with_reducible apply LEq.cons | apply LEq.cons); (case h => (conv => lhs; whnf); try exact rfl))))))))); (case hf => (repeat' (first | exact LEq.nil | ((first | with_reducible apply LEq.cons | apply LEq.cons); (case h => (conv => lhs; whnf); try exact rfl))))))
 | ((with_reducible apply OpR.callX); (case hcal => exact rfl); (case hav => exact rfl); (case hx => exact rfl); (case hh => exact rfl); (case hm => exact rfl); (case hcl => exact k2); (case hr => exact rfl); (case hd => exact rfl); (case hq => kernel_rfl); (case hn => (first | exact ln0 | exact ln1 | exact ln2 | exact ln3 | exact ln4 | exact ln5 | exact ln6 | exact ln7 | exact ln8 | exact ln9 | exact ln10 | exact ln11 | exact ln12 | exact ln13 | exact ln14)); (case hv => (conv => lhs; whnf); try exact rfl); (case he => (repeat' (first | exact XFr.nil | (with_reducible apply XFr.row) | (with_reducible apply XFr.boxt) | ((apply XFr.box); (case hd => (repeat' (first | exact LEq.nil | ((first | with_reducible apply LEq.cons | apply LEq.cons); (case h => (conv => lhs; whnf); try exact rfl))))))))); (case hf => (repeat' (first | exact LEq.nil | ((first | with_reducible apply LEq.cons | apply LEq.cons); (case h => (conv => lhs; whnf); try exact rfl))))))
 | ((with_reducible apply OpR.callF); (case hcal => exact rfl); (case hav => exact rfl); (case hx => exact rfl); (case hh => exact rfl); (case hm => exact rfl); (case hcl => exact kc); (case hr => exact rfl))
 | ((with_reducible apply OpR.callF); (case hcal => exact rfl); (case hav => exact rfl); (case hx => exact rfl); (case hh => exact rfl); (case hm => exact rfl); (case hcl => exact kd); (case hr => exact rfl))
 | exact OpR.r fun _ => rfl))
 | fail)
    all_goals exact ⟨.inr rfl, rfl⟩
theorem sets_n {l : List Ev} {c : List Int} {m : Int} (hl : l.length ≤ 60) (hp : ∀ e ∈ l, e.past.length ≤ 8) (hc8 : c.length ≤ 8) (ka : Cl cfg 10 [] [] (.t (.bool true)) []) (kf : Cl cfg 11 [.t (.agg [.arr [], .arr [], .arr [], .arr [], .arr [], .arr [], .arr []]), .t (.arr (evsE l))] [] (.t (.bool true)) [])
    (k1 : Cl cfg 25 [.t (.int .i64 m), .t (.arr (evsE l))] [] (.tup [.nil, .t (.int .i64 1)]) []) (k2 : Cl cfg 39 [.t (.int .i64 m), .t (.arr (evsE l))] [] (.tup [.nil, .t (.int .i64 1)]) []) :
    Cl cfg 8 [.t (.arr (evsE l)), .t (intsA c), .t (.int .i64 m)] [] (.t (.bool true)) [] := by
  have hcE := intsE_len c
  have kc := closed_c (l := l) (by omega) (fun e he => by have := hp e he; omega)
  have kd := rclosed_c (l := l) (by omega) (fun e he => by have := hp e he; omega)
  have ke : Cl cfg 36 [.t (.arr []), .t (.arr [])] [] (.t (.bool true)) [] := eqs_c (a := []) (b := []) (by simp) (by simp) rfl
  have ko2 := rorder_c (l := l) (by omega)
  have ks := same_c (l := ordE l) (by rw [ordE_len]; omega) (fun e he => by have := hp e (ordE_mem.1 he); omega)
  have kt := ecut_c (l := l) (c := c) (by omega) (by omega)
  have kt2 := rcut_c (l := l) (c := c) (by omega) (by omega)
  have ks2 := same_c (l := cutE l c) (Nat.le_trans (List.length_filter_le _ _) (by omega)) (fun e he => by have := hp e (List.mem_filter.1 he).1; omega)
  obtain ⟨C, hC⟩ : ∃ C, cutE l c = C := ⟨_, rfl⟩
  obtain ⟨b, hb⟩ : ∃ b, closedB l = b := ⟨_, rfl⟩
  rw [hb] at kc kd
  rw [hC] at kt kt2 ks2
  match l, hl, ko2, ks, kf, k1, k2, kc, kd, kt, kt2 with
  | [], hl, ko2, ks, kf, k1, k2, kc, kd, kt, kt2 =>
    have hz : ([] : List (List AV)).length = 0 := rfl
    have e0 : evsE [] = [] := rfl
    have e1 : ordE [] = [] := rfl
    rw [e1] at ko2 ks
    rw [e0] at *
    refine Cl.of_body rfl Tryz.func8 rfl rfl rfl ?_
    cases b <;>
    repeat' (first
 | (with_reducible apply EvK.seq)
 | ((with_reducible apply EvK.text); (try case hm => exact rfl))
 | (with_reducible apply EvK.skip)
 | (with_reducible apply EvK.ret)
 | (with_reducible apply thenK_n)
 | ((with_reducible apply EvK.cond_f); (case hc => exact rfl))
 | ((with_reducible apply EvO.spd_yt); (case hp => first | assumption | omega))
 | ((with_reducible apply EvO.spd_yf); (case hp => first | assumption | omega))
 | (with_reducible apply EvO.nilT)
 | ((with_reducible apply EvO.gt0); (case hW => exact rfl); (case hx => first
 | ((with_reducible apply OpR.mv); (conv => lhs; whnf); try exact rfl)
 | ((with_reducible apply OpR.callF); (case hcal => exact rfl); (case hav => exact rfl); (case hx => exact rfl); (case hh => exact rfl); (case hm => exact rfl); (case hcl => exact ke); (case hr => exact rfl))
 | ((with_reducible apply OpR.callN); (case hcal => exact rfl); (case hav => exact rfl); (case hx => exact rfl); (case hh => exact rfl); (case hm => exact rfl); (case hcl => exact order_n); (case hn => exact rfl); (case hr => exact rfl))
 | ((with_reducible apply OpR.callX); (case hcal => exact rfl); (case hav => exact rfl); (case hx => exact rfl); (case hh => exact rfl); (case hm => exact rfl); (case hcl => exact ko2); (case hr => exact rfl); (case hd => exact rfl); (case hq => kernel_rfl); (case hn => (first | exact ln0 | exact ln1 | exact ln2 | exact ln3 | exact ln4 | exact ln5 | exact ln6 | exact ln7 | exact ln8 | exact ln9 | exact ln10 | exact ln11 | exact ln12 | exact ln13 | exact ln14)); (case hv => (conv => lhs; whnf); try exact rfl); (case he => (repeat' (first | exact XFr.nil | (with_reducible apply XFr.row) | (with_reducible apply XFr.boxt) | ((apply XFr.box); (case hd => (repeat' (first | exact LEq.nil | ((first | with_reducible apply LEq.cons | apply LEq.cons); (case h => (conv => lhs; whnf); try exact rfl))))))))); (case hf => (repeat' (first | exact LEq.nil | ((first | with_reducible apply LEq.cons | apply LEq.cons); (case h => (conv => lhs; whnf); try exact rfl))))))
 | ((with_reducible apply OpR.callF); (case hcal => exact rfl); (case hav => exact rfl); (case hx => exact rfl); (case hh => exact rfl); (case hm => exact rfl); (case hcl => exact ks); (case hr => exact rfl))
 | ((with_reducible apply OpR.callX); (case hcal => exact rfl); (case hav => exact rfl); (case hx => exact rfl); (case hh => exact rfl); (case hm => exact rfl); (case hcl => exact kt); (case hr => exact rfl); (case hd => exact rfl); (case hq => kernel_rfl); (case hn => (first | exact ln0 | exact ln1 | exact ln2 | exact ln3 | exact ln4 | exact ln5 | exact ln6 | exact ln7 | exact ln8 | exact ln9 | exact ln10 | exact ln11 | exact ln12 | exact ln13 | exact ln14)); (case hv => (conv => lhs; whnf); try exact rfl); (case he => (repeat' (first | exact XFr.nil | (with_reducible apply XFr.row) | (with_reducible apply XFr.boxt) | ((apply XFr.box); (case hd => (repeat' (first | exact LEq.nil | ((first | with_reducible apply LEq.cons | apply LEq.cons); (case h => (conv => lhs; whnf); try exact rfl))))))))); (case hf => (repeat' (first | exact LEq.nil | ((first | with_reducible apply LEq.cons | apply LEq.cons); (case h => (conv => lhs; whnf); try exact rfl))))))
 | ((with_reducible apply OpR.callX); (case hcal => exact rfl); (case hav => exact rfl); (case hx => exact rfl); (case hh => exact rfl); (case hm => exact rfl); (case hcl => exact kt2); (case hr => exact rfl); (case hd => exact rfl); (case hq => kernel_rfl); (case hn => (first | exact ln0 | exact ln1 | exact ln2 | exact ln3 | exact ln4 | exact ln5 | exact ln6 | exact ln7 | exact ln8 | exact ln9 | exact ln10 | exact ln11 | exact ln12 | exact ln13 | exact ln14)); (case hv => (conv => lhs; whnf); try exact rfl); (case he => (repeat' (first | exact XFr.nil | (with_reducible apply XFr.row) | (with_reducible apply XFr.boxt) | ((apply XFr.box); (case hd => (repeat' (first | exact LEq.nil | ((first | with_reducible apply LEq.cons | apply LEq.cons); (case h => (conv => lhs; whnf); try exact rfl))))))))); (case hf => (repeat' (first | exact LEq.nil | ((first | with_reducible apply LEq.cons | apply LEq.cons); (case h => (conv => lhs; whnf); try exact rfl))))))
 | ((with_reducible apply OpR.callF); (case hcal => exact rfl); (case hav => exact rfl); (case hx => exact rfl); (case hh => exact rfl); (case hm => exact rfl); (case hcl => exact ks2); (case hr => exact rfl))
 | ((with_reducible apply OpR.len); (case ha => exact rfl); (case hy => exact rfl); (case ht => exact rfl); (case hs => exact rfl); (case hn => first | exact List.length_map _ | exact rfl))
 | exact OpR.r fun _ => rfl))
 | ((with_reducible apply EvO.u0); (case hx => first
 | ((with_reducible apply OpR.mv); (conv => lhs; whnf); try exact rfl)
 | ((with_reducible apply OpR.asg); (conv => lhs; whnf); try exact rfl)
 | ((with_reducible apply OpR.pk_t); (case hc => exact rfl); (case h => (conv => lhs; whnf); try exact rfl))
 | ((with_reducible apply OpR.pk_f); (case hc => exact rfl); (case h => (conv => lhs; whnf); try exact rfl))
 | ((with_reducible apply OpR.callF); (case hcal => exact rfl); (case hav => exact rfl); (case hx => exact rfl); (case hh => exact rfl); (case hm => exact rfl); (case hcl => exact ka); (case hr => exact rfl))
 | ((with_reducible apply OpR.callF); (case hcal => exact rfl); (case hav => exact rfl); (case hx => exact rfl); (case hh => exact rfl); (case hm => exact rfl); (case hcl => exact kf); (case hr => exact rfl))
 | ((with_reducible apply OpR.callF); (case hcal => exact rfl); (case hav => exact rfl); (case hx => exact rfl); (case hh => exact rfl); (case hm => exact rfl); (case hcl => exact k1); (case hr => exact rfl))
 | ((with_reducible apply OpR.callF); (case hcal => exact rfl); (case hav => exact rfl); (case hx => exact rfl); (case hh => exact rfl); (case hm => exact rfl); (case hcl => exact k2); (case hr => exact rfl))
 | ((with_reducible apply OpR.callF); (case hcal => exact rfl); (case hav => exact rfl); (case hx => exact rfl); (case hh => exact rfl); (case hm => exact rfl); (case hcl => exact kc); (case hr => exact rfl))
 | ((with_reducible apply OpR.callF); (case hcal => exact rfl); (case hav => exact rfl); (case hx => exact rfl); (case hh => exact rfl); (case hm => exact rfl); (case hcl => exact kd); (case hr => exact rfl))
 | exact OpR.r fun _ => rfl))
 | fail)
    all_goals exact ⟨.inr rfl, rfl⟩
  | e :: l', hl, ko2, ks, kf, k1, k2, kc, kd, kt, kt2 =>
    have ko := order_c (e := e) (l := l') (by simp at hl; omega)
    obtain ⟨O, hO⟩ : ∃ O, ordE (e :: l') = O := ⟨_, rfl⟩
    obtain ⟨Z, hZ⟩ : ∃ Z, evsE (e :: l') = Z := ⟨_, rfl⟩
    rw [hO] at ko ko2 ks
    rw [hZ] at ko ko2 kf k1 k2 kc kd kt kt2 ⊢
    refine Cl.of_body rfl Tryz.func8 rfl rfl rfl ?_
    cases b <;>
    repeat' (first
 | (with_reducible apply EvK.seq)
 | ((with_reducible apply EvK.text); (try case hm => exact rfl))
 | (with_reducible apply EvK.skip)
 | (with_reducible apply EvK.ret)
 | (with_reducible apply thenK_n)
 | ((with_reducible apply EvK.cond_f); (case hc => exact rfl))
 | ((with_reducible apply EvO.spd_yt); (case hp => first | assumption | omega))
 | ((with_reducible apply EvO.spd_yf); (case hp => first | assumption | omega))
 | (with_reducible apply EvO.nilT)
 | ((with_reducible apply EvO.gt0); (case hW => exact rfl); (case hx => first
 | ((with_reducible apply OpR.mv); (conv => lhs; whnf); try exact rfl)
 | ((with_reducible apply OpR.callF); (case hcal => exact rfl); (case hav => exact rfl); (case hx => exact rfl); (case hh => exact rfl); (case hm => exact rfl); (case hcl => exact ke); (case hr => exact rfl))
 | ((with_reducible apply OpR.callX); (case hcal => exact rfl); (case hav => exact rfl); (case hx => exact rfl); (case hh => exact rfl); (case hm => exact rfl); (case hcl => exact ko); (case hr => exact rfl); (case hd => exact rfl); (case hq => kernel_rfl); (case hn => (first | exact ln0 | exact ln1 | exact ln2 | exact ln3 | exact ln4 | exact ln5 | exact ln6 | exact ln7 | exact ln8 | exact ln9 | exact ln10 | exact ln11 | exact ln12 | exact ln13 | exact ln14)); (case hv => (conv => lhs; whnf); try exact rfl); (case he => (repeat' (first | exact XFr.nil | (with_reducible apply XFr.row) | (with_reducible apply XFr.boxt) | ((apply XFr.box); (case hd => (repeat' (first | exact LEq.nil | ((first | with_reducible apply LEq.cons | apply LEq.cons); (case h => (conv => lhs; whnf); try exact rfl))))))))); (case hf => (repeat' (first | exact LEq.nil | ((first | with_reducible apply LEq.cons | apply LEq.cons); (case h => (conv => lhs; whnf); try exact rfl))))))
 | ((with_reducible apply OpR.callX); (case hcal => exact rfl); (case hav => exact rfl); (case hx => exact rfl); (case hh => exact rfl); (case hm => exact rfl); (case hcl => exact ko2); (case hr => exact rfl); (case hd => exact rfl); (case hq => kernel_rfl); (case hn => (first | exact ln0 | exact ln1 | exact ln2 | exact ln3 | exact ln4 | exact ln5 | exact ln6 | exact ln7 | exact ln8 | exact ln9 | exact ln10 | exact ln11 | exact ln12 | exact ln13 | exact ln14)); (case hv => (conv => lhs; whnf); try exact rfl); (case he => (repeat' (first | exact XFr.nil | (with_reducible apply XFr.row) | (with_reducible apply XFr.boxt) | ((apply XFr.box); (case hd => (repeat' (first | exact LEq.nil | ((first | with_reducible apply LEq.cons | apply LEq.cons); (case h => (conv => lhs; whnf); try exact rfl))))))))); (case hf => (repeat' (first | exact LEq.nil | ((first | with_reducible apply LEq.cons | apply LEq.cons); (case h => (conv => lhs; whnf); try exact rfl))))))
 | ((with_reducible apply OpR.callF); (case hcal => exact rfl); (case hav => exact rfl); (case hx => exact rfl); (case hh => exact rfl); (case hm => exact rfl); (case hcl => exact ks); (case hr => exact rfl))
 | ((with_reducible apply OpR.callX); (case hcal => exact rfl); (case hav => exact rfl); (case hx => exact rfl); (case hh => exact rfl); (case hm => exact rfl); (case hcl => exact kt); (case hr => exact rfl); (case hd => exact rfl); (case hq => kernel_rfl); (case hn => (first | exact ln0 | exact ln1 | exact ln2 | exact ln3 | exact ln4 | exact ln5 | exact ln6 | exact ln7 | exact ln8 | exact ln9 | exact ln10 | exact ln11 | exact ln12 | exact ln13 | exact ln14)); (case hv => (conv => lhs; whnf); try exact rfl); (case he => (repeat' (first | exact XFr.nil | (with_reducible apply XFr.row) | (with_reducible apply XFr.boxt) | ((apply XFr.box); (case hd => (repeat' (first | exact LEq.nil | ((first | with_reducible apply LEq.cons | apply LEq.cons); (case h => (conv => lhs; whnf); try exact rfl))))))))); (case hf => (repeat' (first | exact LEq.nil | ((first | with_reducible apply LEq.cons | apply LEq.cons); (case h => (conv => lhs; whnf); try exact rfl))))))
 | ((with_reducible apply OpR.callX); (case hcal => exact rfl); (case hav => exact rfl); (case hx => exact rfl); (case hh => exact rfl); (case hm => exact rfl); (case hcl => exact kt2); (case hr => exact rfl); (case hd => exact rfl); (case hq => kernel_rfl); (case hn => (first | exact ln0 | exact ln1 | exact ln2 | exact ln3 | exact ln4 | exact ln5 | exact ln6 | exact ln7 | exact ln8 | exact ln9 | exact ln10 | exact ln11 | exact ln12 | exact ln13 | exact ln14)); (case hv => (conv => lhs; whnf); try exact rfl); (case he => (repeat' (first | exact XFr.nil | (with_reducible apply XFr.row) | (with_reducible apply XFr.boxt) | ((apply XFr.box); (case hd => (repeat' (first | exact LEq.nil | ((first | with_reducible apply LEq.cons | apply LEq.cons); (case h => (conv => lhs; whnf); try exact rfl))))))))); (case hf => (repeat' (first | exact LEq.nil | ((first | with_reducible apply LEq.cons | apply LEq.cons); (case h => (conv => lhs; whnf); try exact rfl))))))
 | ((with_reducible apply OpR.callF); (case hcal => exact rfl); (case hav => exact rfl); (case hx => exact rfl); (case hh => exact rfl); (case hm => exact rfl); (case hcl => exact ks2); (case hr => exact rfl))
 | ((with_reducible apply OpR.len); (case ha => exact rfl); (case hy => exact rfl); (case ht => exact rfl); (case hs => exact rfl); (case hn => first | exact List.length_map _ | exact rfl))
 | exact OpR.r fun _ => rfl))
 | ((with_reducible apply EvO.u0); (case hx => first
 | ((with_reducible apply OpR.mv); (conv => lhs; whnf); try exact rfl)
 | ((with_reducible apply OpR.asg); (conv => lhs; whnf); try exact rfl)
 | ((with_reducible apply OpR.pk_t); (case hc => exact rfl); (case h => (conv => lhs; whnf); try exact rfl))
 | ((with_reducible apply OpR.pk_f); (case hc => exact rfl); (case h => (conv => lhs; whnf); try exact rfl))
 | ((with_reducible apply OpR.callF); (case hcal => exact rfl); (case hav => exact rfl); (case hx => exact rfl); (case hh => exact rfl); (case hm => exact rfl); (case hcl => exact ka); (case hr => exact rfl))
 | ((with_reducible apply OpR.callF); (case hcal => exact rfl); (case hav => exact rfl); (case hx => exact rfl); (case hh => exact rfl); (case hm => exact rfl); (case hcl => exact kf); (case hr => exact rfl))
 | ((with_reducible apply OpR.callF); (case hcal => exact rfl); (case hav => exact rfl); (case hx => exact rfl); (case hh => exact rfl); (case hm => exact rfl); (case hcl => exact k1); (case hr => exact rfl))
 | ((with_reducible apply OpR.callF); (case hcal => exact rfl); (case hav => exact rfl); (case hx => exact rfl); (case hh => exact rfl); (case hm => exact rfl); (case hcl => exact k2); (case hr => exact rfl))
 | ((with_reducible apply OpR.callF); (case hcal => exact rfl); (case hav => exact rfl); (case hx => exact rfl); (case hh => exact rfl); (case hm => exact rfl); (case hcl => exact kc); (case hr => exact rfl))
 | ((with_reducible apply OpR.callF); (case hcal => exact rfl); (case hav => exact rfl); (case hx => exact rfl); (case hh => exact rfl); (case hm => exact rfl); (case hcl => exact kd); (case hr => exact rfl))
 | exact OpR.r fun _ => rfl))
 | fail)
    all_goals exact ⟨.inr rfl, rfl⟩
theorem law_sets (l : List Ev) (c : List Int) (m : Int) (hl : l.length ≤ 17592186044416) (hp : ∀ e ∈ l, e.past.length ≤ 17592186044416) (hcl : c.length ≤ 17592186044416) : Cl cfg 8 [.t (.arr (evsE l)), .t (intsA c), .t (.int .i64 m)] [] (.t (.bool true)) [] := by
  have kf := few0_c (l := l) (by omega) (fun e he => by have := hp e he; omega)
  have hcE := intsE_len c
  unfold z7 at kf
  cases hf : few0B l with
  | false =>
    rw [hf] at kf
    refine Cl.of_body rfl Tryz.func8 rfl rfl rfl ?_
    repeat' (first
 | (with_reducible apply EvK.seq)
 | ((with_reducible apply EvK.text); (try case hm => exact rfl))
 | (with_reducible apply EvK.skip)
 | (with_reducible apply EvK.ret)
 | (with_reducible apply thenK_n)
 | (with_reducible apply thenK_r)
 | ((with_reducible apply EvK.cond_t); (case hc => exact rfl))
 | ((with_reducible apply EvK.cond_f); (case hc => exact rfl))
 | (with_reducible apply EvO.nilT)
 | ((with_reducible apply EvO.gf); (case hW => exact rfl))
 | ((with_reducible apply EvO.u0); (case hx => first
 | ((with_reducible apply OpR.mv); (conv => lhs; whnf); try exact rfl)
 | ((with_reducible apply OpR.asg); (conv => lhs; whnf); try exact rfl)
 | ((with_reducible apply OpR.pk_t); (case hc => exact rfl); (case h => (conv => lhs; whnf); try exact rfl))
 | ((with_reducible apply OpR.callF); (case hcal => exact rfl); (case hav => exact rfl); (case hx => exact rfl); (case hh => exact rfl); (case hm => exact rfl); (case hcl => exact awake_c); (case hr => exact rfl))
 | ((with_reducible apply OpR.callF); (case hcal => exact rfl); (case hav => exact rfl); (case hx => exact rfl); (case hh => exact rfl); (case hm => exact rfl); (case hcl => exact kf); (case hr => exact rfl))
 | exact OpR.r fun _ => rfl))
 | fail)
    exact ⟨.inr rfl, rfl⟩
  | true =>
    rw [hf] at kf
    unfold few0B at hf
    simp only [Bool.and_eq_true, decide_eq_true_eq, List.all_eq_true] at hf
    obtain ⟨hf1, hf2⟩ := hf
    by_cases hc8 : c.length ≤ 8
    ·
      by_cases hm : m < 1 ∨ 5 < m
      · exact sets_n hf1 hf2 hc8 awake_c kf (eclock_z hm) (rclock_z hm)
      · obtain ⟨k, rfl⟩ : ∃ k : Nat, m = (k : Int) := ⟨m.toNat, by omega⟩
        have hp2 : ∀ e ∈ l, e.past.length ≤ 140737488351232 := fun e he => by have := hf2 e he; omega
        cases hcb : closedB l with
        | false => exact sets_n hf1 hf2 hc8 awake_c kf (eclock_f (by omega) hp2 (by omega) (by omega) hcb) (rclock_f (by omega) hp2 (by omega) (by omega) hcb)
        | true =>
          have hC := closedB_iff.1 hcb
          by_cases hk : ∀ e ∈ l, e.past.length = k
          · exact sets_g hf1 hf2 hc8 (by rw [clkE_len]; omega) awake_c kf (eclock_c hC hk (by omega) (by omega)) (rclock_c hC hk (by omega) (by omega))
          · match l, hC, hk, hp2, hf1, hf2, kf with
            | [], _, hk, _, _, _, _ => exact absurd (fun e he => by cases he) hk
            | e :: l', hC, hk, hp2, hf1, hf2, kf =>
              have hne : e.past.length ≠ k := fun h => hk fun x hx => by rw [← h]; exact hC.alike x hx e (by simp)
              exact sets_n hf1 hf2 hc8 awake_c kf (eclock_l hC hp2 (by omega) (by omega) hne) (rclock_l hC hp2 (by omega) (by omega) hne)
    ·
      refine Cl.of_body rfl Tryz.func8 rfl rfl rfl ?_
      repeat' (first
 | (with_reducible apply EvK.seq)
 | ((with_reducible apply EvK.text); (try case hm => exact rfl))
 | (with_reducible apply EvK.skip)
 | (with_reducible apply EvK.ret)
 | (with_reducible apply thenK_n)
 | (with_reducible apply thenK_r)
 | ((with_reducible apply EvK.cond_t); (case hc => exact rfl))
 | ((with_reducible apply EvK.cond_f); (case hc => exact rfl))
 | ((with_reducible apply EvO.spd_yt); (case hp => first | assumption | omega))
 | (with_reducible apply EvO.nilT)
 | ((with_reducible apply EvO.gt0); (case hW => exact rfl); (case hx => first
 | ((with_reducible apply OpR.mv); (conv => lhs; whnf); try exact rfl)
 | ((with_reducible apply OpR.len); (case ha => exact rfl); (case hy => exact rfl); (case ht => exact rfl); (case hs => exact rfl); (case hn => first | exact List.length_map _ | exact rfl))
 | exact OpR.r fun _ => rfl))
 | ((with_reducible apply EvO.u0); (case hx => first
 | ((with_reducible apply OpR.mv); (conv => lhs; whnf); try exact rfl)
 | ((with_reducible apply OpR.asg); (conv => lhs; whnf); try exact rfl)
 | ((with_reducible apply OpR.pk_f); (case hc => exact rfl); (case h => (conv => lhs; whnf); try exact rfl))
 | ((with_reducible apply OpR.callF); (case hcal => exact rfl); (case hav => exact rfl); (case hx => exact rfl); (case hh => exact rfl); (case hm => exact rfl); (case hcl => exact awake_c); (case hr => exact rfl))
 | ((with_reducible apply OpR.callF); (case hcal => exact rfl); (case hav => exact rfl); (case hx => exact rfl); (case hh => exact rfl); (case hm => exact rfl); (case hcl => exact kf); (case hr => exact rfl))
 | exact OpR.r fun _ => rfl))
 | fail)
      exact ⟨.inr rfl, rfl⟩
end Go.Proofs.YtgbfedgghjcdcaaGreatDoor
