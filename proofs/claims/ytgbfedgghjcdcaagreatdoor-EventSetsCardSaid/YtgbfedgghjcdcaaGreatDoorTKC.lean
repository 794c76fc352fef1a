/- Law 32: closed lists of events, as the reference tells them. No condition. -/
import Derived.Test.YtgbfedgghjcdcaaGreatDoorTKA
import Derived.Test.YtgbfedgghjcdcaaGreatDoorTK
import Derived.Test.YtgbfedgghjcdcaaGreatDoorTW
import Derived.Test.YtgbfedgghjcdcaaGreatDoorTS
namespace Go.Proofs.YtgbfedgghjcdcaaGreatDoor
set_option linter.unusedSimpArgs false
set_option linter.unusedVariables false
set_option linter.unusedSectionVars false
open Go.RowKit
set_option maxRecDepth 100000
set_option maxHeartbeats 16000000

theorem dot_g : cfg.P.eqGuardType cfg.P.depth 101 = false := by kernel_rfl
theorem dot_t {a b : Ev} (h : nm a = nm b) : eqC cfg.P 20 101 [.int .i64 a.r, .int .i64 a.n] [.int .i64 b.r, .int .i64 b.n] = some true := by
  simp only [nm, Prod.mk.injEq] at h
  rw [dot_eq, h.1, h.2]; simp
theorem dot_f {a b : Ev} (h : nm a ≠ nm b) : eqC cfg.P 20 101 [.int .i64 a.r, .int .i64 a.n] [.int .i64 b.r, .int .i64 b.n] = some false := by
  rw [dot_eq]
  congr 1
  rw [← Bool.not_eq_true]
  intro hh
  simp only [Bool.and_eq_true, decide_eq_true_eq, and_true] at hh
  exact h (by simp [nm, hh.1, hh.2])
theorem count_snoc {α : Type} {p : α → Bool} {l : List α} {k : Nat} {x : α} (h : l[k]? = some x) : (l.take (k + 1)).countP p = (l.take k).countP p + if p x = true then 1 else 0 := by
  rw [take_succ' h, List.countP_append, List.countP_singleton]
structure Cl2 (l : List Ev) (m q : Nat) : Prop where
  form : ∀ k e, k < q → l[k]? = some e → formB e = true
  alike : ∀ k e, k < q → l[k]? = some e → e.past.length = m
  names : ∀ k j e x, k < q → l[k]? = some e → l[j]? = some x → k ≠ j → nm x ≠ nm e
  good : ∀ k e, k < q → l[k]? = some e → ClosedR l e
theorem Cl2.all {l : List Ev} {m : Nat} (few : l.length ≤ 1024) (h : Cl2 l m l.length) : ClosedP l := by
  have get : ∀ e ∈ l, ∃ k, k < l.length ∧ l[k]? = some e := fun e he => by
    obtain ⟨k, hk⟩ := List.mem_iff_getElem?.1 he
    exact ⟨k, lt_of_get hk, hk⟩
  refine (closed_ref few (fun e he => ?_) (fun e he x hx => ?_) ?_).2 (fun e he => ?_)
  · obtain ⟨k, h1, h2⟩ := get e he
    exact h.form k e h1 h2
  · obtain ⟨k, h1, h2⟩ := get e he
    obtain ⟨j, h3, h4⟩ := get x hx
    rw [h.alike k e h1 h2, h.alike j x h3 h4]
  · rw [List.Nodup, List.pairwise_iff_getElem]
    intro i j hi hj hij
    rw [List.getElem_map, List.getElem_map]
    have hi' : i < l.length := by simpa using hi
    have hj' : j < l.length := by simpa using hj
    exact h.names j i _ _ hj' (List.getElem?_eq_getElem hj') (List.getElem?_eq_getElem hi') (by omega)
  · obtain ⟨k, h1, h2⟩ := get e he
    exact h.good k e h1 h2
theorem closedR_of {l : List Ev} (h : ClosedP l) {e : Ev} (he : e ∈ l) : ClosedR l e := (closed_ref h.few h.form h.alike h.names).1 h e he
theorem rclosed_c {l : List Ev} (hl : l.length ≤ 140737488351232) (hp : ∀ e ∈ l, e.past.length ≤ 140737488351232) : Cl cfg 40 [.t (.arr (evsE l))] [] (.t (.bool (closedB l))) [] := by
  have hlE := evsE_len l
  refine Cl.of_body rfl Tryz.func40 rfl rfl rfl ?_
  by_cases hlen : l.length ≤ 1024
  ·
    obtain ⟨m, hm⟩ : ∃ m, (l.headD ⟨0, 0, 0, [], 0, 0, 0, 0, 0, 0, 0, 0, 0⟩).past.length = m := ⟨_, rfl⟩
    repeat' (first
 | (with_reducible apply EvK.seq)
 | (with_reducible apply EvK.block)
 | ((with_reducible apply EvK.text); (try case hm => exact rfl))
 | (with_reducible apply EvK.skip)
 | (with_reducible apply thenK_n)
 | ((with_reducible apply EvK.cond_f); (case hc => exact rfl))
 | ((with_reducible apply EvO.spd_f); (case hp => first | assumption | omega))
 | (with_reducible apply EvO.nilT)
 | ((with_reducible apply EvO.u0); (case hx => first
 | ((with_reducible apply OpR.mv); (conv => lhs; whnf); try exact rfl)
 | ((with_reducible apply OpR.asg); (conv => lhs; whnf); try exact rfl)
 | ((with_reducible apply OpR.len); (case ha => exact rfl); (case hy => exact rfl); (case ht => exact rfl); (case hs => exact rfl); (case hn => first | exact List.length_map _ | exact rfl))
 | exact OpR.r fun _ => rfl))
 | fail)
    apply EvK.loopV
    case ho => exact rfl
    case hp => exact rfl
    case hl => exact rfl
    case hs => repeat' (first | exact Slots.nil | (apply Slots.cons; (case hv => (conv => lhs; whnf); try exact rfl)))
    refine EvL.ind (fun q : Nat => [(3, .t (.int .i64 (q : Int)))]) (fun q => q ≤ l.length ∧ Cl2 l m q) (fun q => l.length - q) 0 rfl ⟨by omega, ⟨fun k e h => by omega, fun k e h => by omega, fun k j e x h => by omega, fun k e h => by omega⟩⟩ (fun q hq => ?_)
    obtain ⟨h1, h2⟩ := hq
    rcases Nat.lt_or_ge q l.length with h3 | h3
    ·
      obtain ⟨e, he⟩ := get_of_lt h3
      have hmem := List.mem_of_getElem? he
      have hc := evsE_get he
      have kne := rname32_c e
      have kf := rformed_c e (hp e hmem)
      have kct := rcount_c (hp e hmem)
      obtain ⟨e0, he0⟩ := get_of_lt (xs := l) (k := 0) (by omega)
      have hc0 := evsE_get he0
      have hm0 : e0.past.length = m := by rw [← hm, List.headD_eq_head?_getD, List.head?_eq_getElem?, he0]; rfl
      have hle := intsE_len e.past
      have hle0 := intsE_len e0.past
      cases hfe : formB e with
      | false =>
        rw [hfe] at kf
        have hno : closedB l = false := closedB_f fun h => by
          have := h.form e hmem
          rw [hfe] at this; cases this
        rw [hno]
        repeat' (first
 | (with_reducible apply EvK.seq)
 | (with_reducible apply EvK.block)
 | ((with_reducible apply EvK.text); (try case hm => exact rfl))
 | ((with_reducible apply EvK.drawn); (case hm => exact rfl))
 | (with_reducible apply EvK.skip)
 | (with_reducible apply EvK.ret)
 | (with_reducible apply thenK_n)
 | (with_reducible apply thenK_r)
 | (with_reducible apply blockK_r)
 | ((with_reducible apply EvK.cond_t); (case hc => exact rfl))
 | ((with_reducible apply EvO.spd_t); (case hp => first | assumption | omega))
 | (with_reducible apply EvO.nilT)
 | ((with_reducible apply EvO.gf); (case hW => exact rfl))
 | ((with_reducible apply EvO.u0); (case hx => first
 | ((with_reducible apply OpR.mv); (conv => lhs; whnf); try exact rfl)
 | ((with_reducible apply OpR.asg); (conv => lhs; whnf); try exact rfl)
 | ((with_reducible apply OpR.pk_t); (case hc => exact rfl); (case h => (conv => lhs; whnf); try exact rfl))
 | ((with_reducible apply OpR.callF); (case hcal => exact rfl); (case hav => exact rfl); (case hx => exact rfl); (case hh => exact rfl); (case hm => exact rfl); (case hcl => exact kf); (case hr => exact rfl))
 | ((with_reducible apply OpR.len); (case ha => exact rfl); (case hy => exact rfl); (case ht => exact rfl); (case hs => exact rfl); (case hn => first | exact List.length_map _ | exact rfl))
 | ((with_reducible apply OpR.ix); (case he => first | (with_reducible exact el0) | (with_reducible exact el1) | (with_reducible exact el2) | (with_reducible exact el3) | (with_reducible exact el4) | (with_reducible exact el5) | (with_reducible exact el6) | (with_reducible exact el7) | exact rfl); (case hx => exact rfl); (case hi => exact rfl); (case hc => assumption); (case hz => exact rfl))
 | exact OpR.r fun _ => rfl))
 | fail)
        all_goals exact ⟨.inr rfl, rfl⟩
      | true =>
        rw [hfe] at kf
        by_cases hpl : e.past.length = e0.past.length
        ·
          repeat' (first
 | (with_reducible apply EvK.seq)
 | (with_reducible apply EvK.block)
 | ((with_reducible apply EvK.text); (try case hm => exact rfl))
 | ((with_reducible apply EvK.drawn); (case hm => exact rfl))
 | (with_reducible apply EvK.skip)
 | (with_reducible apply thenK_n)
 | ((with_reducible apply EvK.cond_t); (case hc => exact rfl))
 | ((with_reducible apply EvK.cond_f); (case hc => exact rfl))
 | ((with_reducible apply EvO.spd_t); (case hp => first | assumption | omega))
 | ((with_reducible apply EvO.spn_yf); (case hp => first | assumption | omega))
 | (with_reducible apply EvO.nilT)
 | ((with_reducible apply EvO.gt0); (case hW => exact rfl); (case hx => first
 | ((with_reducible apply OpR.mv); (conv => lhs; whnf); try exact rfl)
 | ((with_reducible apply OpR.len); (case ha => exact rfl); (case hy => exact rfl); (case ht => exact rfl); (case hs => exact rfl); (case hn => first | exact List.length_map _ | exact rfl))
 | ((with_reducible apply OpR.ix); (case he => first | (with_reducible exact el0) | (with_reducible exact el1) | (with_reducible exact el2) | (with_reducible exact el3) | (with_reducible exact el4) | (with_reducible exact el5) | (with_reducible exact el6) | (with_reducible exact el7) | exact rfl); (case hx => exact rfl); (case hi => exact rfl); (case hc => assumption); (case hz => exact rfl))
 | exact OpR.r fun _ => rfl))
 | ((with_reducible apply EvO.u0); (case hx => first
 | ((with_reducible apply OpR.mv); (conv => lhs; whnf); try exact rfl)
 | ((with_reducible apply OpR.asg); (conv => lhs; whnf); try exact rfl)
 | ((with_reducible apply OpR.pk_f); (case hc => exact rfl); (case h => (conv => lhs; whnf); try exact rfl))
 | ((with_reducible apply OpR.callF); (case hcal => exact rfl); (case hav => exact rfl); (case hx => exact rfl); (case hh => exact rfl); (case hm => exact rfl); (case hcl => exact kf); (case hr => exact rfl))
 | ((with_reducible apply OpR.len); (case ha => exact rfl); (case hy => exact rfl); (case ht => exact rfl); (case hs => exact rfl); (case hn => first | exact List.length_map _ | exact rfl))
 | ((with_reducible apply OpR.ix); (case he => first | (with_reducible exact el0) | (with_reducible exact el1) | (with_reducible exact el2) | (with_reducible exact el3) | (with_reducible exact el4) | (with_reducible exact el5) | (with_reducible exact el6) | (with_reducible exact el7) | exact rfl); (case hx => exact rfl); (case hi => exact rfl); (case hc => assumption); (case hz => exact rfl))
 | exact OpR.r fun _ => rfl))
 | fail)
          apply EvK.loopV
          case ho => exact rfl
          case hp => exact rfl
          case hl => exact rfl
          case hs => repeat' (first | exact Slots.nil | (apply Slots.cons; (case hv => (conv => lhs; whnf); try exact rfl)))
          refine EvL.ind (fun k : Nat => [(4, .t (.int .i64 (((l.take k).countP fun x => befB x e : Nat) : Int))), (5, .t (.int .i64 (k : Int)))]) (fun k => k ≤ l.length ∧ (∀ j x, j < k → j ≠ q → l[j]? = some x → nm x ≠ nm e) ∧ ∀ x ∈ l.take k, befB x e = true → insideB x.past e.past = true ∧ x.t < e.t) (fun k => l.length - k) 0 rfl ⟨by omega, fun j x h => by omega, fun x h => by simp at h⟩ (fun k hk => ?_)
          obtain ⟨f1, f2, f3⟩ := hk
          rcases Nat.lt_or_ge k l.length with f4 | f4
          ·
            obtain ⟨x, hx⟩ := get_of_lt f4
            have hxm := List.mem_of_getElem? hx
            have hcx := evsE_get hx
            have knx := rname32_c x
            have kb := rbefore_c x e (hp x hxm) (hp e hmem)
            have ki := rinside_c (hp x hxm) (hp e hmem)
            have hsn := count_snoc (p := fun x => befB x e) hx
            have hcb : (l.take k).countP (fun x => befB x e) ≤ k := Nat.le_trans List.countP_le_length (by simp; omega)
            have mem_snoc : ∀ y ∈ l.take (k + 1), y ∈ l.take k ∨ y = x := fun y hy => by
              rw [take_succ' hx, List.mem_append, List.mem_singleton] at hy; exact hy
            obtain ⟨c, hcc⟩ : ∃ c, (l.take k).countP (fun x => befB x e) = c := ⟨_, rfl⟩
            rw [hcc] at hsn hcb ⊢
            by_cases hdup : k ≠ q ∧ nm x = nm e
            ·
              obtain ⟨hkq, hnn⟩ := hdup
              have hkq' : ¬ (k : Int) = (q : Int) := by omega
              have hte := dot_t hnn
              have hno : closedB l = false := closedB_f fun h => by
                rcases Nat.lt_or_ge k q with h5 | h5
                · exact nodup_get h.names hx he h5 hnn
                · exact nodup_get h.names he hx (by omega) hnn.symm
              rw [hno]
              repeat' (first
 | (with_reducible apply EvK.seq)
 | (with_reducible apply EvK.block)
 | ((with_reducible apply EvK.text); (try case hm => exact rfl))
 | ((with_reducible apply EvK.drawn); (case hm => exact rfl))
 | (with_reducible apply EvK.skip)
 | (with_reducible apply EvK.ret)
 | (with_reducible apply thenK_n)
 | (with_reducible apply thenK_r)
 | (with_reducible apply blockK_r)
 | ((with_reducible apply EvK.cond_t); (case hc => exact rfl))
 | ((with_reducible apply EvO.spd_t); (case hp => first | assumption | omega))
 | ((with_reducible apply EvO.spn_t); (case hp => first | assumption | omega))
 | (with_reducible apply EvO.nilT)
 | ((with_reducible apply EvO.gt0); (case hW => exact rfl); (case hx => first
 | ((with_reducible apply OpR.mv); (conv => lhs; whnf); try exact rfl)
 | ((with_reducible apply OpR.eqs); (case hx => exact rfl); (case hy => exact rfl); (case hg => exact dot_g); (case ht => exact rfl); (case hr => exact hte))
 | ((with_reducible apply OpR.callF); (case hcal => exact rfl); (case hav => exact rfl); (case hx => exact rfl); (case hh => exact rfl); (case hm => exact rfl); (case hcl => exact knx); (case hr => exact rfl))
 | ((with_reducible apply OpR.callF); (case hcal => exact rfl); (case hav => exact rfl); (case hx => exact rfl); (case hh => exact rfl); (case hm => exact rfl); (case hcl => exact kne); (case hr => exact rfl))
 | ((with_reducible apply OpR.ix); (case he => first | (with_reducible exact el0) | (with_reducible exact el1) | (with_reducible exact el2) | (with_reducible exact el3) | (with_reducible exact el4) | (with_reducible exact el5) | (with_reducible exact el6) | (with_reducible exact el7) | exact rfl); (case hx => exact rfl); (case hi => exact rfl); (case hc => assumption); (case hz => exact rfl))
 | exact OpR.r fun _ => rfl))
 | ((with_reducible apply EvO.u0); (case hx => first
 | ((with_reducible apply OpR.mv); (conv => lhs; whnf); try exact rfl)
 | ((with_reducible apply OpR.asg); (conv => lhs; whnf); try exact rfl)
 | ((with_reducible apply OpR.pk_t); (case hc => exact rfl); (case h => (conv => lhs; whnf); try exact rfl))
 | ((with_reducible apply OpR.len); (case ha => exact rfl); (case hy => exact rfl); (case ht => exact rfl); (case hs => exact rfl); (case hn => first | exact List.length_map _ | exact rfl))
 | exact OpR.r fun _ => rfl))
 | fail)
              all_goals exact ⟨.inr rfl, rfl⟩
            ·
              have hf2 : ∀ j y, j < k + 1 → j ≠ q → l[j]? = some y → nm y ≠ nm e := fun j y hj hjq hy => by
                by_cases hjk : j < k
                · exact f2 j y hjk hjq hy
                · obtain rfl : j = k := by omega
                  rw [hx] at hy; cases hy
                  exact fun h => hdup ⟨hjq, h⟩
              cases hb : befB x e with
              | false =>
                rw [hb] at kb
                rw [hb, if_neg (by decide), Nat.add_zero] at hsn
                have hf3 : ∀ y ∈ l.take (k + 1), befB y e = true → insideB y.past e.past = true ∧ y.t < e.t := fun y hy hbe => by
                  rcases mem_snoc y hy with h | rfl
                  · exact f3 y h hbe
                  · rw [hb] at hbe; cases hbe
                by_cases hkq : (k : Int) = (q : Int)
                ·
                  repeat' (first
 | (with_reducible apply EvK.seq)
 | (with_reducible apply EvK.block)
 | ((with_reducible apply EvK.text); (try case hm => exact rfl))
 | ((with_reducible apply EvK.drawn); (case hm => exact rfl))
 | (with_reducible apply EvK.skip)
 | (with_reducible apply EvK.exit)
 | (with_reducible apply thenK_n)
 | (with_reducible apply thenK_e)
 | (with_reducible apply blockK_h)
 | ((with_reducible apply EvK.cond_t); (case hc => exact rfl))
 | ((with_reducible apply EvK.cond_f); (case hc => exact rfl))
 | ((with_reducible apply EvO.spd_t); (case hp => first | assumption | omega))
 | ((with_reducible apply EvO.spn_f); (case hp => first | assumption | omega))
 | (with_reducible apply EvO.nilT)
 | ((with_reducible apply EvO.gf); (case hW => exact rfl))
 | ((with_reducible apply EvO.u0); (case hx => first
 | ((with_reducible apply OpR.mv); (conv => lhs; whnf); try exact rfl)
 | ((with_reducible apply OpR.asg); (conv => lhs; whnf); try exact rfl)
 | ((with_reducible apply OpR.pk_f); (case hc => exact rfl); (case h => (conv => lhs; whnf); try exact rfl))
 | ((with_reducible apply OpR.callF); (case hcal => exact rfl); (case hav => exact rfl); (case hx => exact rfl); (case hh => exact rfl); (case hm => exact rfl); (case hcl => exact kb); (case hr => exact rfl))
 | ((with_reducible apply OpR.inc); (case hx => exact rfl); (case hy => exact rfl); (case h => omega))
 | ((with_reducible apply OpR.len); (case ha => exact rfl); (case hy => exact rfl); (case ht => exact rfl); (case hs => exact rfl); (case hn => first | exact List.length_map _ | exact rfl))
 | ((with_reducible apply OpR.ix); (case he => first | (with_reducible exact el0) | (with_reducible exact el1) | (with_reducible exact el2) | (with_reducible exact el3) | (with_reducible exact el4) | (with_reducible exact el5) | (with_reducible exact el6) | (with_reducible exact el7) | exact rfl); (case hx => exact rfl); (case hi => exact rfl); (case hc => assumption); (case hz => exact rfl))
 | exact OpR.r fun _ => rfl))
 | fail)
                  refine ⟨k + 1, ?_, rfl, ⟨by omega, hf2, hf3⟩, by omega⟩
                  rw [hsn]; rfl
                ·
                  have hte := dot_f (a := x) (b := e) (fun h => hdup ⟨by omega, h⟩)
                  repeat' (first
 | (with_reducible apply EvK.seq)
 | (with_reducible apply EvK.block)
 | ((with_reducible apply EvK.text); (try case hm => exact rfl))
 | ((with_reducible apply EvK.drawn); (case hm => exact rfl))
 | (with_reducible apply EvK.skip)
 | (with_reducible apply EvK.exit)
 | (with_reducible apply thenK_n)
 | (with_reducible apply thenK_e)
 | (with_reducible apply blockK_h)
 | ((with_reducible apply EvK.cond_t); (case hc => exact rfl))
 | ((with_reducible apply EvK.cond_f); (case hc => exact rfl))
 | ((with_reducible apply EvO.spd_t); (case hp => first | assumption | omega))
 | ((with_reducible apply EvO.spn_t); (case hp => first | assumption | omega))
 | (with_reducible apply EvO.nilT)
 | ((with_reducible apply EvO.gt0); (case hW => exact rfl); (case hx => first
 | ((with_reducible apply OpR.mv); (conv => lhs; whnf); try exact rfl)
 | ((with_reducible apply OpR.eqs); (case hx => exact rfl); (case hy => exact rfl); (case hg => exact dot_g); (case ht => exact rfl); (case hr => exact hte))
 | ((with_reducible apply OpR.callF); (case hcal => exact rfl); (case hav => exact rfl); (case hx => exact rfl); (case hh => exact rfl); (case hm => exact rfl); (case hcl => exact knx); (case hr => exact rfl))
 | ((with_reducible apply OpR.callF); (case hcal => exact rfl); (case hav => exact rfl); (case hx => exact rfl); (case hh => exact rfl); (case hm => exact rfl); (case hcl => exact kne); (case hr => exact rfl))
 | ((with_reducible apply OpR.ix); (case he => first | (with_reducible exact el0) | (with_reducible exact el1) | (with_reducible exact el2) | (with_reducible exact el3) | (with_reducible exact el4) | (with_reducible exact el5) | (with_reducible exact el6) | (with_reducible exact el7) | exact rfl); (case hx => exact rfl); (case hi => exact rfl); (case hc => assumption); (case hz => exact rfl))
 | exact OpR.r fun _ => rfl))
 | ((with_reducible apply EvO.u0); (case hx => first
 | ((with_reducible apply OpR.mv); (conv => lhs; whnf); try exact rfl)
 | ((with_reducible apply OpR.asg); (conv => lhs; whnf); try exact rfl)
 | ((with_reducible apply OpR.pk_t); (case hc => exact rfl); (case h => (conv => lhs; whnf); try exact rfl))
 | ((with_reducible apply OpR.callF); (case hcal => exact rfl); (case hav => exact rfl); (case hx => exact rfl); (case hh => exact rfl); (case hm => exact rfl); (case hcl => exact kb); (case hr => exact rfl))
 | ((with_reducible apply OpR.inc); (case hx => exact rfl); (case hy => exact rfl); (case h => omega))
 | ((with_reducible apply OpR.len); (case ha => exact rfl); (case hy => exact rfl); (case ht => exact rfl); (case hs => exact rfl); (case hn => first | exact List.length_map _ | exact rfl))
 | ((with_reducible apply OpR.ix); (case he => first | (with_reducible exact el0) | (with_reducible exact el1) | (with_reducible exact el2) | (with_reducible exact el3) | (with_reducible exact el4) | (with_reducible exact el5) | (with_reducible exact el6) | (with_reducible exact el7) | exact rfl); (case hx => exact rfl); (case hi => exact rfl); (case hc => assumption); (case hz => exact rfl))
 | exact OpR.r fun _ => rfl))
 | fail)
                  refine ⟨k + 1, ?_, rfl, ⟨by omega, hf2, hf3⟩, by omega⟩
                  rw [hsn]; rfl
              | true =>
                rw [hb] at kb
                rw [hb, if_pos rfl] at hsn
                by_cases hgood : insideB x.past e.past = true ∧ x.t < e.t
                ·
                  obtain ⟨hi, ht⟩ := hgood
                  rw [hi] at ki
                  have hf3 : ∀ y ∈ l.take (k + 1), befB y e = true → insideB y.past e.past = true ∧ y.t < e.t := fun y hy hbe => by
                    rcases mem_snoc y hy with h | rfl
                    · exact f3 y h hbe
                    · exact ⟨hi, ht⟩
                  by_cases hkq : (k : Int) = (q : Int)
                  ·
                    repeat' (first
 | (with_reducible apply EvK.seq)
 | (with_reducible apply EvK.block)
 | ((with_reducible apply EvK.text); (try case hm => exact rfl))
 | ((with_reducible apply EvK.drawn); (case hm => exact rfl))
 | (with_reducible apply EvK.skip)
 | (with_reducible apply thenK_n)
 | (with_reducible apply blockK_n)
 | ((with_reducible apply EvK.cond_t); (case hc => exact rfl))
 | ((with_reducible apply EvK.cond_f); (case hc => exact rfl))
 | ((with_reducible apply EvO.spd_t); (case hp => first | assumption | omega))
 | ((with_reducible apply EvO.spn_f); (case hp => first | assumption | omega))
 | ((with_reducible apply EvO.spd_yf); (case hp => first | assumption | omega))
 | (with_reducible apply EvO.nilT)
 | ((with_reducible apply EvO.gf); (case hW => exact rfl))
 | ((with_reducible apply EvO.gt0); (case hW => exact rfl); (case hx => first
 | ((with_reducible apply OpR.mv); (conv => lhs; whnf); try exact rfl)
 | ((with_reducible apply OpR.ix); (case he => first | (with_reducible exact el0) | (with_reducible exact el1) | (with_reducible exact el2) | (with_reducible exact el3) | (with_reducible exact el4) | (with_reducible exact el5) | (with_reducible exact el6) | (with_reducible exact el7) | exact rfl); (case hx => exact rfl); (case hi => exact rfl); (case hc => assumption); (case hz => exact rfl))
 | exact OpR.r fun _ => rfl))
 | ((with_reducible apply EvO.u0); (case hx => first
 | ((with_reducible apply OpR.mv); (conv => lhs; whnf); try exact rfl)
 | ((with_reducible apply OpR.asg); (conv => lhs; whnf); try exact rfl)
 | ((with_reducible apply OpR.pk_f); (case hc => exact rfl); (case h => (conv => lhs; whnf); try exact rfl))
 | ((with_reducible apply OpR.callF); (case hcal => exact rfl); (case hav => exact rfl); (case hx => exact rfl); (case hh => exact rfl); (case hm => exact rfl); (case hcl => exact kb); (case hr => exact rfl))
 | ((with_reducible apply OpR.callF); (case hcal => exact rfl); (case hav => exact rfl); (case hx => exact rfl); (case hh => exact rfl); (case hm => exact rfl); (case hcl => exact ki); (case hr => exact rfl))
 | ((with_reducible apply OpR.inc); (case hx => exact rfl); (case hy => exact rfl); (case h => omega))
 | ((with_reducible apply OpR.len); (case ha => exact rfl); (case hy => exact rfl); (case ht => exact rfl); (case hs => exact rfl); (case hn => first | exact List.length_map _ | exact rfl))
 | ((with_reducible apply OpR.ix); (case he => first | (with_reducible exact el0) | (with_reducible exact el1) | (with_reducible exact el2) | (with_reducible exact el3) | (with_reducible exact el4) | (with_reducible exact el5) | (with_reducible exact el6) | (with_reducible exact el7) | exact rfl); (case hx => exact rfl); (case hi => exact rfl); (case hc => assumption); (case hz => exact rfl))
 | exact OpR.r fun _ => rfl))
 | fail)
                    refine ⟨k + 1, ?_, rfl, ⟨by omega, hf2, hf3⟩, by omega⟩
                    rw [hsn]; rfl
                  ·
                    have hte := dot_f (a := x) (b := e) (fun h => hdup ⟨by omega, h⟩)
                    repeat' (first
 | (with_reducible apply EvK.seq)
 | (with_reducible apply EvK.block)
 | ((with_reducible apply EvK.text); (try case hm => exact rfl))
 | ((with_reducible apply EvK.drawn); (case hm => exact rfl))
 | (with_reducible apply EvK.skip)
 | (with_reducible apply thenK_n)
 | (with_reducible apply blockK_n)
 | ((with_reducible apply EvK.cond_t); (case hc => exact rfl))
 | ((with_reducible apply EvK.cond_f); (case hc => exact rfl))
 | ((with_reducible apply EvO.spd_t); (case hp => first | assumption | omega))
 | ((with_reducible apply EvO.spn_t); (case hp => first | assumption | omega))
 | ((with_reducible apply EvO.spd_yf); (case hp => first | assumption | omega))
 | (with_reducible apply EvO.nilT)
 | ((with_reducible apply EvO.gt0); (case hW => exact rfl); (case hx => first
 | ((with_reducible apply OpR.mv); (conv => lhs; whnf); try exact rfl)
 | ((with_reducible apply OpR.eqs); (case hx => exact rfl); (case hy => exact rfl); (case hg => exact dot_g); (case ht => exact rfl); (case hr => exact hte))
 | ((with_reducible apply OpR.callF); (case hcal => exact rfl); (case hav => exact rfl); (case hx => exact rfl); (case hh => exact rfl); (case hm => exact rfl); (case hcl => exact knx); (case hr => exact rfl))
 | ((with_reducible apply OpR.callF); (case hcal => exact rfl); (case hav => exact rfl); (case hx => exact rfl); (case hh => exact rfl); (case hm => exact rfl); (case hcl => exact kne); (case hr => exact rfl))
 | ((with_reducible apply OpR.ix); (case he => first | (with_reducible exact el0) | (with_reducible exact el1) | (with_reducible exact el2) | (with_reducible exact el3) | (with_reducible exact el4) | (with_reducible exact el5) | (with_reducible exact el6) | (with_reducible exact el7) | exact rfl); (case hx => exact rfl); (case hi => exact rfl); (case hc => assumption); (case hz => exact rfl))
 | exact OpR.r fun _ => rfl))
 | ((with_reducible apply EvO.u0); (case hx => first
 | ((with_reducible apply OpR.mv); (conv => lhs; whnf); try exact rfl)
 | ((with_reducible apply OpR.asg); (conv => lhs; whnf); try exact rfl)
 | ((with_reducible apply OpR.pk_t); (case hc => exact rfl); (case h => (conv => lhs; whnf); try exact rfl))
 | ((with_reducible apply OpR.pk_f); (case hc => exact rfl); (case h => (conv => lhs; whnf); try exact rfl))
 | ((with_reducible apply OpR.callF); (case hcal => exact rfl); (case hav => exact rfl); (case hx => exact rfl); (case hh => exact rfl); (case hm => exact rfl); (case hcl => exact kb); (case hr => exact rfl))
 | ((with_reducible apply OpR.callF); (case hcal => exact rfl); (case hav => exact rfl); (case hx => exact rfl); (case hh => exact rfl); (case hm => exact rfl); (case hcl => exact ki); (case hr => exact rfl))
 | ((with_reducible apply OpR.inc); (case hx => exact rfl); (case hy => exact rfl); (case h => omega))
 | ((with_reducible apply OpR.len); (case ha => exact rfl); (case hy => exact rfl); (case ht => exact rfl); (case hs => exact rfl); (case hn => first | exact List.length_map _ | exact rfl))
 | ((with_reducible apply OpR.ix); (case he => first | (with_reducible exact el0) | (with_reducible exact el1) | (with_reducible exact el2) | (with_reducible exact el3) | (with_reducible exact el4) | (with_reducible exact el5) | (with_reducible exact el6) | (with_reducible exact el7) | exact rfl); (case hx => exact rfl); (case hi => exact rfl); (case hc => assumption); (case hz => exact rfl))
 | exact OpR.r fun _ => rfl))
 | fail)
                    refine ⟨k + 1, ?_, rfl, ⟨by omega, hf2, hf3⟩, by omega⟩
                    rw [hsn]; rfl
                ·
                  have hno : closedB l = false := closedB_f fun h => hgood ((closedR_of h hmem).inside x hxm hb)
                  rw [hno]
                  cases hi : insideB x.past e.past with
                  | false =>
                    rw [hi] at ki
                    by_cases hkq : (k : Int) = (q : Int)
                    ·
                      repeat' (first
 | (with_reducible apply EvK.seq)
 | (with_reducible apply EvK.block)
 | ((with_reducible apply EvK.text); (try case hm => exact rfl))
 | ((with_reducible apply EvK.drawn); (case hm => exact rfl))
 | (with_reducible apply EvK.skip)
 | (with_reducible apply EvK.ret)
 | (with_reducible apply thenK_n)
 | (with_reducible apply thenK_r)
 | (with_reducible apply blockK_r)
 | ((with_reducible apply EvK.cond_t); (case hc => exact rfl))
 | ((with_reducible apply EvK.cond_f); (case hc => exact rfl))
 | ((with_reducible apply EvO.spd_t); (case hp => first | assumption | omega))
 | ((with_reducible apply EvO.spn_f); (case hp => first | assumption | omega))
 | (with_reducible apply EvO.nilT)
 | ((with_reducible apply EvO.gf); (case hW => exact rfl))
 | ((with_reducible apply EvO.u0); (case hx => first
 | ((with_reducible apply OpR.mv); (conv => lhs; whnf); try exact rfl)
 | ((with_reducible apply OpR.asg); (conv => lhs; whnf); try exact rfl)
 | ((with_reducible apply OpR.pk_t); (case hc => exact rfl); (case h => (conv => lhs; whnf); try exact rfl))
 | ((with_reducible apply OpR.pk_f); (case hc => exact rfl); (case h => (conv => lhs; whnf); try exact rfl))
 | ((with_reducible apply OpR.callF); (case hcal => exact rfl); (case hav => exact rfl); (case hx => exact rfl); (case hh => exact rfl); (case hm => exact rfl); (case hcl => exact kb); (case hr => exact rfl))
 | ((with_reducible apply OpR.callF); (case hcal => exact rfl); (case hav => exact rfl); (case hx => exact rfl); (case hh => exact rfl); (case hm => exact rfl); (case hcl => exact ki); (case hr => exact rfl))
 | ((with_reducible apply OpR.inc); (case hx => exact rfl); (case hy => exact rfl); (case h => omega))
 | ((with_reducible apply OpR.len); (case ha => exact rfl); (case hy => exact rfl); (case ht => exact rfl); (case hs => exact rfl); (case hn => first | exact List.length_map _ | exact rfl))
 | ((with_reducible apply OpR.ix); (case he => first | (with_reducible exact el0) | (with_reducible exact el1) | (with_reducible exact el2) | (with_reducible exact el3) | (with_reducible exact el4) | (with_reducible exact el5) | (with_reducible exact el6) | (with_reducible exact el7) | exact rfl); (case hx => exact rfl); (case hi => exact rfl); (case hc => assumption); (case hz => exact rfl))
 | exact OpR.r fun _ => rfl))
 | fail)
                      all_goals exact ⟨.inr rfl, rfl⟩
                    ·
                      have hte := dot_f (a := x) (b := e) (fun h => hdup ⟨by omega, h⟩)
                      repeat' (first
 | (with_reducible apply EvK.seq)
 | (with_reducible apply EvK.block)
 | ((with_reducible apply EvK.text); (try case hm => exact rfl))
 | ((with_reducible apply EvK.drawn); (case hm => exact rfl))
 | (with_reducible apply EvK.skip)
 | (with_reducible apply EvK.ret)
 | (with_reducible apply thenK_n)
 | (with_reducible apply thenK_r)
 | (with_reducible apply blockK_r)
 | ((with_reducible apply EvK.cond_t); (case hc => exact rfl))
 | ((with_reducible apply EvK.cond_f); (case hc => exact rfl))
 | ((with_reducible apply EvO.spd_t); (case hp => first | assumption | omega))
 | ((with_reducible apply EvO.spn_t); (case hp => first | assumption | omega))
 | (with_reducible apply EvO.nilT)
 | ((with_reducible apply EvO.gf); (case hW => exact rfl))
 | ((with_reducible apply EvO.gt0); (case hW => exact rfl); (case hx => first
 | ((with_reducible apply OpR.mv); (conv => lhs; whnf); try exact rfl)
 | ((with_reducible apply OpR.eqs); (case hx => exact rfl); (case hy => exact rfl); (case hg => exact dot_g); (case ht => exact rfl); (case hr => exact hte))
 | ((with_reducible apply OpR.callF); (case hcal => exact rfl); (case hav => exact rfl); (case hx => exact rfl); (case hh => exact rfl); (case hm => exact rfl); (case hcl => exact knx); (case hr => exact rfl))
 | ((with_reducible apply OpR.callF); (case hcal => exact rfl); (case hav => exact rfl); (case hx => exact rfl); (case hh => exact rfl); (case hm => exact rfl); (case hcl => exact kne); (case hr => exact rfl))
 | ((with_reducible apply OpR.ix); (case he => first | (with_reducible exact el0) | (with_reducible exact el1) | (with_reducible exact el2) | (with_reducible exact el3) | (with_reducible exact el4) | (with_reducible exact el5) | (with_reducible exact el6) | (with_reducible exact el7) | exact rfl); (case hx => exact rfl); (case hi => exact rfl); (case hc => assumption); (case hz => exact rfl))
 | exact OpR.r fun _ => rfl))
 | ((with_reducible apply EvO.u0); (case hx => first
 | ((with_reducible apply OpR.mv); (conv => lhs; whnf); try exact rfl)
 | ((with_reducible apply OpR.asg); (conv => lhs; whnf); try exact rfl)
 | ((with_reducible apply OpR.pk_t); (case hc => exact rfl); (case h => (conv => lhs; whnf); try exact rfl))
 | ((with_reducible apply OpR.callF); (case hcal => exact rfl); (case hav => exact rfl); (case hx => exact rfl); (case hh => exact rfl); (case hm => exact rfl); (case hcl => exact kb); (case hr => exact rfl))
 | ((with_reducible apply OpR.callF); (case hcal => exact rfl); (case hav => exact rfl); (case hx => exact rfl); (case hh => exact rfl); (case hm => exact rfl); (case hcl => exact ki); (case hr => exact rfl))
 | ((with_reducible apply OpR.inc); (case hx => exact rfl); (case hy => exact rfl); (case h => omega))
 | ((with_reducible apply OpR.len); (case ha => exact rfl); (case hy => exact rfl); (case ht => exact rfl); (case hs => exact rfl); (case hn => first | exact List.length_map _ | exact rfl))
 | ((with_reducible apply OpR.ix); (case he => first | (with_reducible exact el0) | (with_reducible exact el1) | (with_reducible exact el2) | (with_reducible exact el3) | (with_reducible exact el4) | (with_reducible exact el5) | (with_reducible exact el6) | (with_reducible exact el7) | exact rfl); (case hx => exact rfl); (case hi => exact rfl); (case hc => assumption); (case hz => exact rfl))
 | exact OpR.r fun _ => rfl))
 | fail)
                      all_goals exact ⟨.inr rfl, rfl⟩
                  | true =>
                    rw [hi] at ki
                    have ht : ¬ x.t < e.t := fun h => hgood ⟨hi, h⟩
                    by_cases hkq : (k : Int) = (q : Int)
                    ·
                      repeat' (first
 | (with_reducible apply EvK.seq)
 | (with_reducible apply EvK.block)
 | ((with_reducible apply EvK.text); (try case hm => exact rfl))
 | ((with_reducible apply EvK.drawn); (case hm => exact rfl))
 | (with_reducible apply EvK.skip)
 | (with_reducible apply EvK.ret)
 | (with_reducible apply thenK_n)
 | (with_reducible apply thenK_r)
 | (with_reducible apply blockK_r)
 | ((with_reducible apply EvK.cond_t); (case hc => exact rfl))
 | ((with_reducible apply EvK.cond_f); (case hc => exact rfl))
 | ((with_reducible apply EvO.spd_t); (case hp => first | assumption | omega))
 | ((with_reducible apply EvO.spn_f); (case hp => first | assumption | omega))
 | ((with_reducible apply EvO.spd_yt); (case hp => first | assumption | omega))
 | (with_reducible apply EvO.nilT)
 | ((with_reducible apply EvO.gf); (case hW => exact rfl))
 | ((with_reducible apply EvO.gt0); (case hW => exact rfl); (case hx => first
 | ((with_reducible apply OpR.mv); (conv => lhs; whnf); try exact rfl)
 | ((with_reducible apply OpR.ix); (case he => first | (with_reducible exact el0) | (with_reducible exact el1) | (with_reducible exact el2) | (with_reducible exact el3) | (with_reducible exact el4) | (with_reducible exact el5) | (with_reducible exact el6) | (with_reducible exact el7) | exact rfl); (case hx => exact rfl); (case hi => exact rfl); (case hc => assumption); (case hz => exact rfl))
 | exact OpR.r fun _ => rfl))
 | ((with_reducible apply EvO.u0); (case hx => first
 | ((with_reducible apply OpR.mv); (conv => lhs; whnf); try exact rfl)
 | ((with_reducible apply OpR.asg); (conv => lhs; whnf); try exact rfl)
 | ((with_reducible apply OpR.pk_f); (case hc => exact rfl); (case h => (conv => lhs; whnf); try exact rfl))
 | ((with_reducible apply OpR.callF); (case hcal => exact rfl); (case hav => exact rfl); (case hx => exact rfl); (case hh => exact rfl); (case hm => exact rfl); (case hcl => exact kb); (case hr => exact rfl))
 | ((with_reducible apply OpR.callF); (case hcal => exact rfl); (case hav => exact rfl); (case hx => exact rfl); (case hh => exact rfl); (case hm => exact rfl); (case hcl => exact ki); (case hr => exact rfl))
 | ((with_reducible apply OpR.inc); (case hx => exact rfl); (case hy => exact rfl); (case h => omega))
 | ((with_reducible apply OpR.len); (case ha => exact rfl); (case hy => exact rfl); (case ht => exact rfl); (case hs => exact rfl); (case hn => first | exact List.length_map _ | exact rfl))
 | ((with_reducible apply OpR.ix); (case he => first | (with_reducible exact el0) | (with_reducible exact el1) | (with_reducible exact el2) | (with_reducible exact el3) | (with_reducible exact el4) | (with_reducible exact el5) | (with_reducible exact el6) | (with_reducible exact el7) | exact rfl); (case hx => exact rfl); (case hi => exact rfl); (case hc => assumption); (case hz => exact rfl))
 | exact OpR.r fun _ => rfl))
 | fail)
                      all_goals exact ⟨.inr rfl, rfl⟩
                    ·
                      have hte := dot_f (a := x) (b := e) (fun h => hdup ⟨by omega, h⟩)
                      repeat' (first
 | (with_reducible apply EvK.seq)
 | (with_reducible apply EvK.block)
 | ((with_reducible apply EvK.text); (try case hm => exact rfl))
 | ((with_reducible apply EvK.drawn); (case hm => exact rfl))
 | (with_reducible apply EvK.skip)
 | (with_reducible apply EvK.ret)
 | (with_reducible apply thenK_n)
 | (with_reducible apply thenK_r)
 | (with_reducible apply blockK_r)
 | ((with_reducible apply EvK.cond_t); (case hc => exact rfl))
 | ((with_reducible apply EvK.cond_f); (case hc => exact rfl))
 | ((with_reducible apply EvO.spd_t); (case hp => first | assumption | omega))
 | ((with_reducible apply EvO.spn_t); (case hp => first | assumption | omega))
 | ((with_reducible apply EvO.spd_yt); (case hp => first | assumption | omega))
 | (with_reducible apply EvO.nilT)
 | ((with_reducible apply EvO.gt0); (case hW => exact rfl); (case hx => first
 | ((with_reducible apply OpR.mv); (conv => lhs; whnf); try exact rfl)
 | ((with_reducible apply OpR.eqs); (case hx => exact rfl); (case hy => exact rfl); (case hg => exact dot_g); (case ht => exact rfl); (case hr => exact hte))
 | ((with_reducible apply OpR.callF); (case hcal => exact rfl); (case hav => exact rfl); (case hx => exact rfl); (case hh => exact rfl); (case hm => exact rfl); (case hcl => exact knx); (case hr => exact rfl))
 | ((with_reducible apply OpR.callF); (case hcal => exact rfl); (case hav => exact rfl); (case hx => exact rfl); (case hh => exact rfl); (case hm => exact rfl); (case hcl => exact kne); (case hr => exact rfl))
 | ((with_reducible apply OpR.ix); (case he => first | (with_reducible exact el0) | (with_reducible exact el1) | (with_reducible exact el2) | (with_reducible exact el3) | (with_reducible exact el4) | (with_reducible exact el5) | (with_reducible exact el6) | (with_reducible exact el7) | exact rfl); (case hx => exact rfl); (case hi => exact rfl); (case hc => assumption); (case hz => exact rfl))
 | exact OpR.r fun _ => rfl))
 | ((with_reducible apply EvO.u0); (case hx => first
 | ((with_reducible apply OpR.mv); (conv => lhs; whnf); try exact rfl)
 | ((with_reducible apply OpR.asg); (conv => lhs; whnf); try exact rfl)
 | ((with_reducible apply OpR.pk_t); (case hc => exact rfl); (case h => (conv => lhs; whnf); try exact rfl))
 | ((with_reducible apply OpR.pk_f); (case hc => exact rfl); (case h => (conv => lhs; whnf); try exact rfl))
 | ((with_reducible apply OpR.callF); (case hcal => exact rfl); (case hav => exact rfl); (case hx => exact rfl); (case hh => exact rfl); (case hm => exact rfl); (case hcl => exact kb); (case hr => exact rfl))
 | ((with_reducible apply OpR.callF); (case hcal => exact rfl); (case hav => exact rfl); (case hx => exact rfl); (case hh => exact rfl); (case hm => exact rfl); (case hcl => exact ki); (case hr => exact rfl))
 | ((with_reducible apply OpR.inc); (case hx => exact rfl); (case hy => exact rfl); (case h => omega))
 | ((with_reducible apply OpR.len); (case ha => exact rfl); (case hy => exact rfl); (case ht => exact rfl); (case hs => exact rfl); (case hn => first | exact List.length_map _ | exact rfl))
 | ((with_reducible apply OpR.ix); (case he => first | (with_reducible exact el0) | (with_reducible exact el1) | (with_reducible exact el2) | (with_reducible exact el3) | (with_reducible exact el4) | (with_reducible exact el5) | (with_reducible exact el6) | (with_reducible exact el7) | exact rfl); (case hx => exact rfl); (case hi => exact rfl); (case hc => assumption); (case hz => exact rfl))
 | exact OpR.r fun _ => rfl))
 | fail)
                      all_goals exact ⟨.inr rfl, rfl⟩
          ·
            have hk : k = l.length := by omega
            rw [hk] at f2 f3 ⊢
            rw [List.take_of_length_le (Nat.le_refl _)] at f3 ⊢
            have hnin : l.countP (fun x => befB x e) = nIn l e := rfl
            rw [hnin]
            have hnl : nIn l e ≤ l.length := List.countP_le_length
            by_cases hcnt : (nIn l e : Int) = countS e.past
            ·
              repeat' (first
 | (with_reducible apply EvK.seq)
 | ((with_reducible apply EvK.text); (try case hm => exact rfl))
 | (with_reducible apply EvK.skip)
 | (with_reducible apply EvK.exit)
 | (with_reducible apply thenK_n)
 | (with_reducible apply thenK_e)
 | (with_reducible apply blockK_n)
 | (with_reducible apply blockK_h)
 | ((with_reducible apply EvK.cond_f); (case hc => exact rfl))
 | ((with_reducible apply EvO.spd_f); (case hp => first | assumption | omega))
 | ((with_reducible apply EvO.spn_f); (case hp => first | assumption | omega))
 | (with_reducible apply EvO.nilT)
 | ((with_reducible apply EvO.u0); (case hx => first
 | ((with_reducible apply OpR.mv); (conv => lhs; whnf); try exact rfl)
 | ((with_reducible apply OpR.asg); (conv => lhs; whnf); try exact rfl)
 | ((with_reducible apply OpR.callF); (case hcal => exact rfl); (case hav => exact rfl); (case hx => exact rfl); (case hh => exact rfl); (case hm => exact rfl); (case hcl => exact kct); (case hr => exact rfl))
 | ((with_reducible apply OpR.inc); (case hx => exact rfl); (case hy => exact rfl); (case h => omega))
 | ((with_reducible apply OpR.len); (case ha => exact rfl); (case hy => exact rfl); (case ht => exact rfl); (case hs => exact rfl); (case hn => first | exact List.length_map _ | exact rfl))
 | ((with_reducible apply OpR.ix); (case he => first | (with_reducible exact el0) | (with_reducible exact el1) | (with_reducible exact el2) | (with_reducible exact el3) | (with_reducible exact el4) | (with_reducible exact el5) | (with_reducible exact el6) | (with_reducible exact el7) | exact rfl); (case hx => exact rfl); (case hi => exact rfl); (case hc => assumption); (case hz => exact rfl))
 | exact OpR.r fun _ => rfl))
 | fail)
              refine ⟨q + 1, rfl, rfl, ⟨by omega, ⟨fun k e' h h' => ?_, fun k e' h h' => ?_, fun k j e' x h h' h6 h7 => ?_, fun k e' h h' => ?_⟩⟩, by omega⟩
              · by_cases h5 : k < q
                · exact h2.form k e' h5 h'
                · obtain rfl : k = q := by omega
                  rw [he] at h'; cases h'
                  exact hfe
              · by_cases h5 : k < q
                · exact h2.alike k e' h5 h'
                · obtain rfl : k = q := by omega
                  rw [he] at h'; cases h'
                  omega
              · by_cases h5 : k < q
                · exact h2.names k j e' x h5 h' h6 h7
                · obtain rfl : k = q := by omega
                  rw [he] at h'; cases h'
                  exact f2 j x (lt_of_get h6) (fun h => h7 h.symm) h6
              · by_cases h5 : k < q
                · exact h2.good k e' h5 h'
                · obtain rfl : k = q := by omega
                  rw [he] at h'; cases h'
                  exact ⟨f3, hcnt⟩
            ·
              have hno : closedB l = false := closedB_f fun h => hcnt (closedR_of h hmem).count
              rw [hno]
              repeat' (first
 | (with_reducible apply EvK.seq)
 | ((with_reducible apply EvK.text); (try case hm => exact rfl))
 | (with_reducible apply EvK.exit)
 | (with_reducible apply EvK.ret)
 | (with_reducible apply thenK_n)
 | (with_reducible apply thenK_e)
 | (with_reducible apply thenK_r)
 | (with_reducible apply blockK_r)
 | (with_reducible apply blockK_h)
 | ((with_reducible apply EvK.cond_t); (case hc => exact rfl))
 | ((with_reducible apply EvK.cond_f); (case hc => exact rfl))
 | ((with_reducible apply EvO.spd_f); (case hp => first | assumption | omega))
 | ((with_reducible apply EvO.spn_t); (case hp => first | assumption | omega))
 | (with_reducible apply EvO.nilT)
 | ((with_reducible apply EvO.u0); (case hx => first
 | ((with_reducible apply OpR.mv); (conv => lhs; whnf); try exact rfl)
 | ((with_reducible apply OpR.asg); (conv => lhs; whnf); try exact rfl)
 | ((with_reducible apply OpR.callF); (case hcal => exact rfl); (case hav => exact rfl); (case hx => exact rfl); (case hh => exact rfl); (case hm => exact rfl); (case hcl => exact kct); (case hr => exact rfl))
 | ((with_reducible apply OpR.len); (case ha => exact rfl); (case hy => exact rfl); (case ht => exact rfl); (case hs => exact rfl); (case hn => first | exact List.length_map _ | exact rfl))
 | ((with_reducible apply OpR.ix); (case he => first | (with_reducible exact el0) | (with_reducible exact el1) | (with_reducible exact el2) | (with_reducible exact el3) | (with_reducible exact el4) | (with_reducible exact el5) | (with_reducible exact el6) | (with_reducible exact el7) | exact rfl); (case hx => exact rfl); (case hi => exact rfl); (case hc => assumption); (case hz => exact rfl))
 | exact OpR.r fun _ => rfl))
 | fail)
              all_goals exact ⟨.inr rfl, rfl⟩
        ·
          have hno : closedB l = false := closedB_f fun h => hpl (h.alike e hmem e0 (List.mem_of_getElem? he0))
          rw [hno]
          repeat' (first
 | (with_reducible apply EvK.seq)
 | (with_reducible apply EvK.block)
 | ((with_reducible apply EvK.text); (try case hm => exact rfl))
 | ((with_reducible apply EvK.drawn); (case hm => exact rfl))
 | (with_reducible apply EvK.skip)
 | (with_reducible apply EvK.ret)
 | (with_reducible apply thenK_n)
 | (with_reducible apply thenK_r)
 | (with_reducible apply blockK_r)
 | ((with_reducible apply EvK.cond_t); (case hc => exact rfl))
 | ((with_reducible apply EvO.spd_t); (case hp => first | assumption | omega))
 | ((with_reducible apply EvO.spn_yt); (case hp => first | assumption | omega))
 | (with_reducible apply EvO.nilT)
 | ((with_reducible apply EvO.gt0); (case hW => exact rfl); (case hx => first
 | ((with_reducible apply OpR.mv); (conv => lhs; whnf); try exact rfl)
 | ((with_reducible apply OpR.len); (case ha => exact rfl); (case hy => exact rfl); (case ht => exact rfl); (case hs => exact rfl); (case hn => first | exact List.length_map _ | exact rfl))
 | ((with_reducible apply OpR.ix); (case he => first | (with_reducible exact el0) | (with_reducible exact el1) | (with_reducible exact el2) | (with_reducible exact el3) | (with_reducible exact el4) | (with_reducible exact el5) | (with_reducible exact el6) | (with_reducible exact el7) | exact rfl); (case hx => exact rfl); (case hi => exact rfl); (case hc => assumption); (case hz => exact rfl))
 | exact OpR.r fun _ => rfl))
 | ((with_reducible apply EvO.u0); (case hx => first
 | ((with_reducible apply OpR.mv); (conv => lhs; whnf); try exact rfl)
 | ((with_reducible apply OpR.asg); (conv => lhs; whnf); try exact rfl)
 | ((with_reducible apply OpR.pk_f); (case hc => exact rfl); (case h => (conv => lhs; whnf); try exact rfl))
 | ((with_reducible apply OpR.callF); (case hcal => exact rfl); (case hav => exact rfl); (case hx => exact rfl); (case hh => exact rfl); (case hm => exact rfl); (case hcl => exact kf); (case hr => exact rfl))
 | ((with_reducible apply OpR.len); (case ha => exact rfl); (case hy => exact rfl); (case ht => exact rfl); (case hs => exact rfl); (case hn => first | exact List.length_map _ | exact rfl))
 | ((with_reducible apply OpR.ix); (case he => first | (with_reducible exact el0) | (with_reducible exact el1) | (with_reducible exact el2) | (with_reducible exact el3) | (with_reducible exact el4) | (with_reducible exact el5) | (with_reducible exact el6) | (with_reducible exact el7) | exact rfl); (case hx => exact rfl); (case hi => exact rfl); (case hc => assumption); (case hz => exact rfl))
 | exact OpR.r fun _ => rfl))
 | fail)
          all_goals exact ⟨.inr rfl, rfl⟩
    ·
      have hq : q = l.length := by omega
      rw [hq] at h2
      rw [closedB_t (h2.all hlen)]
      repeat' (first
 | (with_reducible apply EvK.seq)
 | ((with_reducible apply EvK.text); (try case hm => exact rfl))
 | (with_reducible apply EvK.exit)
 | (with_reducible apply EvK.ret)
 | (with_reducible apply thenK_n)
 | (with_reducible apply thenK_e)
 | (with_reducible apply blockK_h)
 | ((with_reducible apply EvK.cond_f); (case hc => exact rfl))
 | ((with_reducible apply EvO.spd_f); (case hp => first | assumption | omega))
 | (with_reducible apply EvO.nilT)
 | ((with_reducible apply EvO.u0); (case hx => first
 | ((with_reducible apply OpR.mv); (conv => lhs; whnf); try exact rfl)
 | ((with_reducible apply OpR.asg); (conv => lhs; whnf); try exact rfl)
 | ((with_reducible apply OpR.len); (case ha => exact rfl); (case hy => exact rfl); (case ht => exact rfl); (case hs => exact rfl); (case hn => first | exact List.length_map _ | exact rfl))
 | exact OpR.r fun _ => rfl))
 | fail)
      exact ⟨.inr rfl, rfl⟩
  ·
    have hno : closedB l = false := closedB_f fun h => hlen h.few
    rw [hno]
    repeat' (first
 | (with_reducible apply EvK.seq)
 | ((with_reducible apply EvK.text); (try case hm => exact rfl))
 | (with_reducible apply EvK.ret)
 | (with_reducible apply thenK_r)
 | ((with_reducible apply EvK.cond_t); (case hc => exact rfl))
 | ((with_reducible apply EvO.spd_t); (case hp => first | assumption | omega))
 | (with_reducible apply EvO.nilT)
 | ((with_reducible apply EvO.u0); (case hx => first
 | ((with_reducible apply OpR.mv); (conv => lhs; whnf); try exact rfl)
 | ((with_reducible apply OpR.asg); (conv => lhs; whnf); try exact rfl)
 | ((with_reducible apply OpR.len); (case ha => exact rfl); (case hy => exact rfl); (case ht => exact rfl); (case hs => exact rfl); (case hn => first | exact List.length_map _ | exact rfl))
 | exact OpR.r fun _ => rfl))
 | fail)
    exact ⟨.inr rfl, rfl⟩
end Go.Proofs.YtgbfedgghjcdcaaGreatDoor

namespace Go.Proofs.YtgbfedgghjcdcaaGreatDoor
set_option linter.unusedSimpArgs false
set_option linter.unusedVariables false
set_option linter.unusedSectionVars false
open Go.RowKit
set_option maxRecDepth 100000
set_option maxHeartbeats 16000000

theorem newsE (l : List Ev) : newsOk 13 (evsE l) = true := by
  unfold newsOk evsE
  simp [evCs, oneA, intsA]
theorem eclone_c {e : Ev} {l : List Ev} (hl : l.length ≤ 1000) : Cl cfg 27 [.t (.arr (evsE (e :: l)))] [] (.ls 0) [.row false false 13 (evsE (e :: l))] := by
  refine Cl.ext (xs := [.arr (evsE (e :: l))]) (by kernel_rfl) rfl ?_
  have h1 := newsE (e :: l)
  have h2 : Nat.ble (evsE l).length 999999 = true := by rw [evsE_len, Nat.ble_eq]; omega
  show extA 27 [.arr (evCs e :: evsE l)] = _
  have h3 : newsOk 13 (evCs e :: evsE l) = true := h1
  have hx : cloneX (evCs e :: evsE l) = some (.ls 0, [.row false false 13 (evsE (e :: l))]) := by
    show (match newsOk 13 (evCs e :: evsE l) && Nat.ble (evsE l).length 999999 with | true => some (SV.ls 0, [Lb.row false false 13 (evCs e :: evsE l)]) | false => none) = _
    rw [h3, h2]; rfl
  have hP : extP 27 [.arr (evCs e :: evsE l)] = cloneX (evCs e :: evsE l) := rfl
  have hT : extT 27 [.arr (evCs e :: evsE l)] = none := rfl
  unfold extA
  rw [hT]
  show extP _ _ = _
  rw [hP, hx]
theorem sorts_c {l : List Ev} (hl : l.length ≤ 60) : Cl cfg 87 [.ls 0, cF] [.row false false 13 (evsE l)] (.tup []) [.row false false 13 (evsE (isort ltE l))] := by
  have hs := stable_c hl
  refine Cl.of_body rfl Tryz.func87 rfl rfl rfl ?_
  repeat' (first
 | ((with_reducible apply EvK.text); (try case hm => exact rfl))
 | (with_reducible apply EvO.nil)
 | ((with_reducible apply EvO.u0); (case hx => first
 | ((with_reducible apply OpR.mv); (conv => lhs; whnf); try exact rfl)
 | ((with_reducible apply OpR.callQ [0]); (case hdr => exact rfl); (case hcal => exact rfl); (case hav => exact rfl); (case hx => exact rfl); (case hh => exact rfl); (case hs0 => kernel_rfl); (case hf => kernel_rfl); (case hg => exact rfl); (case hc => kernel_rfl); (case hm => exact rfl); (case hb => exact rfl); (case hcl => exact hs); (case hk => exact rfl); (case hv => (conv => lhs; whnf); try exact rfl); (case hl => (repeat' (first | exact LEq.nil | ((first | with_reducible apply LEq.cons | apply LEq.cons); (case h => (conv => lhs; whnf); try exact rfl))))); (case hq => exact rfl))
 | ((with_reducible apply OpR.len); (case ha => exact rfl); (case hy => exact rfl); (case ht => exact rfl); (case hs => exact rfl); (case hn => first | exact List.length_map _ | exact rfl))))
 | fail)
  exact ⟨.inl rfl, rfl⟩
theorem order_c {e : Ev} {l : List Ev} (hl : l.length + 1 ≤ 60) : Cl cfg 42 [.t (.arr (evsE (e :: l)))] [] (.ls 0) [.row false false 13 (evsE (ordE (e :: l)))] := by
  have hc := eclone_c (e := e) (l := l) (by omega)
  have hs := sorts_c (l := e :: l) (by simp; omega)
  refine Cl.of_body rfl Tryz.func42 rfl rfl rfl ?_
  repeat' (first
 | (with_reducible apply EvK.seq)
 | ((with_reducible apply EvK.text); (try case hm => exact rfl))
 | (with_reducible apply EvK.ret)
 | (with_reducible apply EvO.nilT)
 | ((with_reducible apply EvO.u0); (case hx => first
 | ((with_reducible apply OpR.mv); (conv => lhs; whnf); try exact rfl)
 | ((with_reducible apply OpR.asg); (conv => lhs; whnf); try exact rfl)
 | ((with_reducible apply OpR.callX); (case hcal => exact rfl); (case hav => exact rfl); (case hx => exact rfl); (case hh => exact rfl); (case hm => exact rfl); (case hcl => exact hc); (case hr => exact rfl); (case hd => exact rfl); (case hq => kernel_rfl); (case hn => (first | exact ln0 | exact ln1 | exact ln2 | exact ln3 | exact ln4 | exact ln5 | exact ln6 | exact ln7 | exact ln8 | exact ln9 | exact ln10 | exact ln11 | exact ln12 | exact ln13 | exact ln14)); (case hv => (conv => lhs; whnf); try exact rfl); (case he => (repeat' (first | exact XFr.nil | (with_reducible apply XFr.row) | (with_reducible apply XFr.boxt) | ((apply XFr.box); (case hd => (repeat' (first | exact LEq.nil | ((first | with_reducible apply LEq.cons | apply LEq.cons); (case h => (conv => lhs; whnf); try exact rfl))))))))); (case hf => (repeat' (first | exact LEq.nil | ((first | with_reducible apply LEq.cons | apply LEq.cons); (case h => (conv => lhs; whnf); try exact rfl))))))
 | ((with_reducible apply OpR.callQ [0]); (case hdr => exact rfl); (case hcal => exact rfl); (case hav => exact rfl); (case hx => exact rfl); (case hh => exact rfl); (case hs0 => kernel_rfl); (case hf => kernel_rfl); (case hg => exact rfl); (case hc => kernel_rfl); (case hm => exact rfl); (case hb => exact rfl); (case hcl => exact hs); (case hk => exact rfl); (case hv => (conv => lhs; whnf); try exact rfl); (case hl => (repeat' (first | exact LEq.nil | ((first | with_reducible apply LEq.cons | apply LEq.cons); (case h => (conv => lhs; whnf); try exact rfl))))); (case hq => exact rfl))))
 | fail)
  exact ⟨.inr rfl, rfl⟩
theorem order_n : Cl cfg 42 [.t (.arr [])] [] (.t (.arr [])) [] := ⟨12, by kernel_rfl⟩
theorem zero_c {m : Nat} (h1 : 1 ≤ m) (h5 : m ≤ 5) : Cl cfg 73 [.t (.int .i64 (m : Int))] [] (.ls 0) [.row false false 1 (intsE (List.replicate m 0))] := by
  have : m = 1 ∨ m = 2 ∨ m = 3 ∨ m = 4 ∨ m = 5 := by omega
  rcases this with rfl | rfl | rfl | rfl | rfl <;> exact ⟨4, by kernel_rfl⟩
theorem eclock_c {l : List Ev} {m : Nat} (hC : ClosedP l) (hm : ∀ e ∈ l, e.past.length = m) (h1 : 1 ≤ m) (h5 : m ≤ 5) : Cl cfg 25 [.t (.int .i64 (m : Int)), .t (.arr (evsE l))] [] (.tup [.ls 0, .t (.int .i64 0)]) [.row false false 1 (intsE (clkE m l))] := by
  have hlen := hC.few
  have hlE := evsE_len l
  have kz := zero_c h1 h5
  have kc := closed_c (l := l) (by omega) (fun e he => by rw [hm e he]; omega)
  rw [closedB_t hC] at kc
  have hz0 : intsE (List.replicate m 0) = intsE (clkE m (l.take 0)) := rfl
  obtain ⟨z, zs, hz⟩ : ∃ z zs, intsE (List.replicate m 0) = z :: zs := by
    obtain ⟨k, rfl⟩ : ∃ k, m = k + 1 := ⟨m - 1, by omega⟩
    exact ⟨_, _, rfl⟩
  rw [hz] at kz hz0
  refine Cl.of_body rfl Tryz.func25 rfl rfl rfl ?_
  repeat' (first
 | (with_reducible apply EvK.seq)
 | (with_reducible apply EvK.block)
 | ((with_reducible apply EvK.text); (try case hm => exact rfl))
 | (with_reducible apply EvK.skip)
 | (with_reducible apply thenK_n)
 | ((with_reducible apply EvK.cond_f); (case hc => exact rfl))
 | (with_reducible apply EvO.nilT)
 | ((with_reducible apply EvO.gt0); (case hW => exact rfl); (case hx => first
 | ((with_reducible apply OpR.mv); (conv => lhs; whnf); try exact rfl)
 | ((with_reducible apply OpR.callF); (case hcal => exact rfl); (case hav => exact rfl); (case hx => exact rfl); (case hh => exact rfl); (case hm => exact rfl); (case hcl => exact kc); (case hr => exact rfl))
 | exact OpR.r fun _ => rfl))
 | ((with_reducible apply EvO.u0); (case hx => first
 | ((with_reducible apply OpR.mv); (conv => lhs; whnf); try exact rfl)
 | ((with_reducible apply OpR.asg); (conv => lhs; whnf); try exact rfl)
 | ((with_reducible apply OpR.pk_f); (case hc => exact rfl); (case h => (conv => lhs; whnf); try exact rfl))
 | ((with_reducible apply OpR.callX); (case hcal => exact rfl); (case hav => exact rfl); (case hx => exact rfl); (case hh => exact rfl); (case hm => exact rfl); (case hcl => exact kz); (case hr => exact rfl); (case hd => exact rfl); (case hq => kernel_rfl); (case hn => (first | exact ln0 | exact ln1 | exact ln2 | exact ln3 | exact ln4 | exact ln5 | exact ln6 | exact ln7 | exact ln8 | exact ln9 | exact ln10 | exact ln11 | exact ln12 | exact ln13 | exact ln14)); (case hv => (conv => lhs; whnf); try exact rfl); (case he => (repeat' (first | exact XFr.nil | (with_reducible apply XFr.row) | (with_reducible apply XFr.boxt) | ((apply XFr.box); (case hd => (repeat' (first | exact LEq.nil | ((first | with_reducible apply LEq.cons | apply LEq.cons); (case h => (conv => lhs; whnf); try exact rfl))))))))); (case hf => (repeat' (first | exact LEq.nil | ((first | with_reducible apply LEq.cons | apply LEq.cons); (case h => (conv => lhs; whnf); try exact rfl))))))
 | ((with_reducible apply OpR.len); (case ha => exact rfl); (case hy => exact rfl); (case ht => exact rfl); (case hs => exact rfl); (case hn => first | exact List.length_map _ | exact rfl))
 | exact OpR.r fun _ => rfl))
 | fail)
  apply EvK.loopV
  case ho => exact rfl
  case hp => exact rfl
  case hl => exact rfl
  case hs => repeat' (first | exact Slots.nil | (apply Slots.cons; (case hv => (conv => lhs; whnf); try exact rfl)))
  refine EvL.indF (fun k : Nat => [(20, .t (.int .i64 (k : Int)))]) (fun k => [.row false false 1 (intsE (clkE m (l.take k)))]) (fun k => k ≤ l.length) (fun k => l.length - k) 0 rfl (by rw [hz0]) (by omega) (fun k hk => ?_)
  rcases Nat.lt_or_ge k l.length with h3 | h3
  ·
    obtain ⟨e, he⟩ := get_of_lt h3
    have hmem := List.mem_of_getElem? he
    have hc := evsE_get he
    have hpl := hm e hmem
    have hle := intsE_len e.past
    obtain ⟨r0, r1, _, _⟩ := form_rng (hC.form e hmem)
    have hst := clkE_snoc (m := m) he
    have hcl := clkE_len m (l.take k)
    obtain ⟨c, hcc⟩ : ∃ c, clkE m (l.take k) = c := ⟨_, rfl⟩
    rw [hcc] at hst hcl ⊢
    obtain ⟨v, hv⟩ := get_of_lt (xs := c) (k := e.r.toNat) (by omega)
    have hk' := intsE_get hv
    have hlc := intsE_len c
    have hsn : (intsE c).set e.r.toNat [.int .i64 (max v e.n)] = intsE (clkE m (l.take (k + 1))) := by
      rw [hst, clkStep, getD_get hv]
      simp [intsE, List.map_set]
    repeat' (first
 | (with_reducible apply EvK.seq)
 | (with_reducible apply EvK.block)
 | ((with_reducible apply EvK.text); (try case hm => exact rfl))
 | ((with_reducible apply EvK.drawn); (case hm => exact rfl))
 | (with_reducible apply EvK.skip)
 | (with_reducible apply thenK_n)
 | ((with_reducible apply EvK.cond_t); (case hc => exact rfl))
 | ((with_reducible apply EvK.cond_f); (case hc => exact rfl))
 | ((with_reducible apply EvO.spd_t); (case hp => first | assumption | omega))
 | ((with_reducible apply EvO.spn_f); (case hp => first | assumption | omega))
 | (with_reducible apply EvO.nilT)
 | (with_reducible apply EvO.nilB)
 | ((with_reducible apply EvO.u0); (case hx => first
 | ((with_reducible apply OpR.mv); (conv => lhs; whnf); try exact rfl)
 | ((with_reducible apply OpR.sti); (case hs => exact fun _ => rfl); (case ha => exact rfl); (case hy => exact rfl); (case ht => exact rfl); (case hone => exact rfl); (case hn => kernel_rfl); (case hb => exact rfl); (case hk => exact hk'); (case hj => exact rfl); (case hv => exact hsn); (case hf => (repeat' (first | exact LEq.nil | ((first | with_reducible apply LEq.cons | apply LEq.cons); (case h => (conv => lhs; whnf); try exact rfl))))))
 | ((with_reducible apply OpR.inc); (case hx => exact rfl); (case hy => exact rfl); (case h => omega))
 | ((with_reducible apply OpR.len); (case ha => exact rfl); (case hy => exact rfl); (case ht => exact rfl); (case hs => exact rfl); (case hn => first | exact List.length_map _ | exact rfl))
 | ((with_reducible apply OpR.ix); (case he => first | (with_reducible exact el0) | (with_reducible exact el1) | (with_reducible exact el2) | (with_reducible exact el3) | (with_reducible exact el4) | (with_reducible exact el5) | (with_reducible exact el6) | (with_reducible exact el7) | exact rfl); (case hx => exact rfl); (case hi => exact rfl); (case hc => assumption); (case hz => exact rfl))
 | ((with_reducible apply OpR.fal); (case hy => exact rfl); (case ho => exact rfl); (case hn => (conv => lhs; whnf); try exact rfl))
 | ((with_reducible apply OpR.al); (case hs => exact fun _ => rfl); (case hz => exact rfl); (case hc => (repeat' (first | exact LEq.nil | ((first | with_reducible apply LEq.cons | apply LEq.cons); (case h => (conv => lhs; whnf); try exact rfl))))); (case hn => (first | exact ln0 | exact ln1 | exact ln2 | exact ln3 | exact ln4 | exact ln5 | exact ln6 | exact ln7 | exact ln8 | exact ln9 | exact ln10 | exact ln11 | exact ln12 | exact ln13 | exact ln14)); (case hf => (repeat' (first | exact LEq.nil | ((first | with_reducible apply LEq.cons | apply LEq.cons); (case h => (conv => lhs; whnf); try exact rfl))))))
 | ((with_reducible apply OpR.stw); (case hs => exact fun _ => rfl); (case ha => exact rfl); (case hy => exact rfl); (case ht => first | (with_reducible exact sz0) | (with_reducible exact sz1) | (with_reducible exact sz2) | (with_reducible exact sz3) | (with_reducible exact sz4) | (with_reducible exact sz5) | (with_reducible exact sz6) | (with_reducible exact sz7) | (with_reducible exact sz8) | (with_reducible exact sz9) | exact rfl); (case ho => kernel_rfl); (case hl => kernel_rfl); (case hb => exact rfl); (case hc => kernel_rfl); (case hf => (repeat' (first | exact LEq.nil | ((first | with_reducible apply LEq.cons | apply LEq.cons); (case h => (conv => lhs; whnf); try exact rfl))))))
 | ((with_reducible apply OpR.ixrm); (case he => first | (with_reducible exact el0) | (with_reducible exact el1) | (with_reducible exact el2) | (with_reducible exact el3) | (with_reducible exact el4) | (with_reducible exact el5) | (with_reducible exact el6) | (with_reducible exact el7) | exact rfl); (case hx => exact rfl); (case hi => exact rfl); (case hb => exact rfl); (case h0 => first | assumption | omega); (case hq => first | assumption | omega))
 | ((with_reducible apply OpR.ldi); (case hy => exact rfl); (case ht => exact rfl); (case hb => exact rfl); (case hk => assumption))
 | exact OpR.r fun _ => rfl))
 | fail)
    refine ⟨k + 1, rfl, rfl, by omega, by omega⟩
  ·
    rw [List.take_of_length_le h3]
    repeat' (first
 | (with_reducible apply EvK.seq)
 | ((with_reducible apply EvK.text); (try case hm => exact rfl))
 | (with_reducible apply EvK.exit)
 | (with_reducible apply EvK.ret)
 | (with_reducible apply thenK_n)
 | (with_reducible apply thenK_e)
 | (with_reducible apply blockK_h)
 | ((with_reducible apply EvK.cond_f); (case hc => exact rfl))
 | ((with_reducible apply EvO.spd_f); (case hp => first | assumption | omega))
 | (with_reducible apply EvO.nilT)
 | ((with_reducible apply EvO.u0); (case hx => first
 | ((with_reducible apply OpR.mv); (conv => lhs; whnf); try exact rfl)
 | ((with_reducible apply OpR.asg); (conv => lhs; whnf); try exact rfl)
 | exact OpR.r fun _ => rfl))
 | fail)
    exact ⟨.inr rfl, rfl⟩
theorem cutE_snoc {l : List Ev} {c : List Int} {k : Nat} {e : Ev} (h : l[k]? = some e) : cutE (l.take (k + 1)) c = cutE (l.take k) c ++ if hasS c e.r e.n = true then [e] else [] := by
  unfold cutE
  rw [take_succ' h, List.filter_append]
  congr 1
  rw [List.filter_cons]
  split <;> rfl
theorem ecut_c {l : List Ev} {c : List Int} (hl : l.length ≤ 1000) (hc : c.length ≤ 1000) : Cl cfg 44 [.t (.arr (evsE l)), .t (intsA c)] [] (.ls 0) [.row false false 13 (evsE (cutE l c))] := by
  have hlE := evsE_len l
  refine Cl.of_body rfl Tryz.func44 rfl rfl rfl ?_
  repeat' (first
 | (with_reducible apply EvK.seq)
 | (with_reducible apply EvK.block)
 | ((with_reducible apply EvK.text); (try case hm => exact rfl))
 | (with_reducible apply EvO.nilT)
 | ((with_reducible apply EvO.u0); (case hx => first
 | ((with_reducible apply OpR.mv); (conv => lhs; whnf); try exact rfl)
 | ((with_reducible apply OpR.asg); (conv => lhs; whnf); try exact rfl)
 | ((with_reducible apply OpR.len); (case ha => exact rfl); (case hy => exact rfl); (case ht => exact rfl); (case hs => exact rfl); (case hn => first | exact List.length_map _ | exact rfl))))
 | fail)
  apply EvK.loopV
  case ho => exact rfl
  case hp => exact rfl
  case hl => exact rfl
  case hs => repeat' (first | exact Slots.nil | (apply Slots.cons; (case hv => (conv => lhs; whnf); try exact rfl)))
  refine EvL.indF (fun s : Nat × Bool => [(5, .ls 0), (10, .t (.int .i64 (s.1 : Int)))]) (fun s => [.row false s.2 13 (evsE (cutE (l.take s.1) c))]) (fun s => s.1 ≤ l.length) (fun s => l.length - s.1) (0, false) rfl rfl (by simp) (fun s hq => ?_)
  obtain ⟨k, tch⟩ := s
  dsimp only at hq ⊢
  rcases Nat.lt_or_ge k l.length with h3 | h3
  ·
    obtain ⟨e, he⟩ := get_of_lt h3
    have hce := evsE_get he
    have kn := name_c e
    have kh := has_c (a := c) (r := e.r) (n := e.n) (by omega)
    have hst := cutE_snoc (c := c) he
    have hcl : (cutE (l.take k) c).length ≤ k := Nat.le_trans (List.length_filter_le _ _) (by simp; omega)
    obtain ⟨X, hX⟩ : ∃ X, cutE (l.take k) c = X := ⟨_, rfl⟩
    rw [hX] at hst hcl ⊢
    cases hh : hasS c e.r e.n with
    | false =>
      rw [hh] at kh
      rw [hh, if_neg (by decide), List.append_nil] at hst
      repeat' (first
 | (with_reducible apply EvK.seq)
 | (with_reducible apply EvK.block)
 | ((with_reducible apply EvK.text); (try case hm => exact rfl))
 | (with_reducible apply EvK.skip)
 | (with_reducible apply thenK_n)
 | (with_reducible apply blockK_n)
 | ((with_reducible apply EvK.cond_t); (case hc => exact rfl))
 | ((with_reducible apply EvK.cond_f); (case hc => exact rfl))
 | ((with_reducible apply EvO.spd_t); (case hp => first | assumption | omega))
 | (with_reducible apply EvO.nilT)
 | ((with_reducible apply EvO.u0); (case hx => first
 | ((with_reducible apply OpR.mv); (conv => lhs; whnf); try exact rfl)
 | ((with_reducible apply OpR.callF); (case hcal => exact rfl); (case hav => exact rfl); (case hx => exact rfl); (case hh => exact rfl); (case hm => exact rfl); (case hcl => exact kn); (case hr => exact rfl))
 | ((with_reducible apply OpR.callF); (case hcal => exact rfl); (case hav => exact rfl); (case hx => exact rfl); (case hh => exact rfl); (case hm => exact rfl); (case hcl => exact kh); (case hr => exact rfl))
 | ((with_reducible apply OpR.inc); (case hx => exact rfl); (case hy => exact rfl); (case h => omega))
 | ((with_reducible apply OpR.ix); (case he => first | (with_reducible exact el0) | (with_reducible exact el1) | (with_reducible exact el2) | (with_reducible exact el3) | (with_reducible exact el4) | (with_reducible exact el5) | (with_reducible exact el6) | (with_reducible exact el7) | exact rfl); (case hx => exact rfl); (case hi => exact rfl); (case hc => assumption); (case hz => exact rfl))
 | ((with_reducible apply OpR.al); (case hs => exact fun _ => rfl); (case hz => exact rfl); (case hc => (repeat' (first | exact LEq.nil | ((first | with_reducible apply LEq.cons | apply LEq.cons); (case h => (conv => lhs; whnf); try exact rfl))))); (case hn => (first | exact ln0 | exact ln1 | exact ln2 | exact ln3 | exact ln4 | exact ln5 | exact ln6 | exact ln7 | exact ln8 | exact ln9 | exact ln10 | exact ln11 | exact ln12 | exact ln13 | exact ln14)); (case hf => (repeat' (first | exact LEq.nil | ((first | with_reducible apply LEq.cons | apply LEq.cons); (case h => (conv => lhs; whnf); try exact rfl))))))
 | ((with_reducible apply OpR.stw); (case hs => exact fun _ => rfl); (case ha => exact rfl); (case hy => exact rfl); (case ht => first | (with_reducible exact sz0) | (with_reducible exact sz1) | (with_reducible exact sz2) | (with_reducible exact sz3) | (with_reducible exact sz4) | (with_reducible exact sz5) | (with_reducible exact sz6) | (with_reducible exact sz7) | (with_reducible exact sz8) | (with_reducible exact sz9) | exact rfl); (case ho => kernel_rfl); (case hl => kernel_rfl); (case hb => exact rfl); (case hc => kernel_rfl); (case hf => (repeat' (first | exact LEq.nil | ((first | with_reducible apply LEq.cons | apply LEq.cons); (case h => (conv => lhs; whnf); try exact rfl))))))
 | ((with_reducible apply OpR.ldw); (case hy => exact rfl); (case ht => first | (with_reducible exact sz0) | (with_reducible exact sz1) | (with_reducible exact sz2) | (with_reducible exact sz3) | (with_reducible exact sz4) | (with_reducible exact sz5) | (with_reducible exact sz6) | (with_reducible exact sz7) | (with_reducible exact sz8) | (with_reducible exact sz9)); (case hb => exact rfl); (case hl => kernel_rfl))
 | exact OpR.r fun _ => rfl))
 | fail)
      refine ⟨(k + 1, tch), rfl, by dsimp only; rw [hst]; rfl, by dsimp only; omega, by dsimp only; omega⟩
    | true =>
      rw [hh] at kh
      rw [hh, if_pos rfl] at hst
      have hsn : evsE X ++ [evCs e] = evsE (cutE (l.take (k + 1)) c) := by rw [hst]; simp [evsE]
      have hlX : lenOk ((evsE X).length + 1) 120 = true := by rw [evsE_len]; simp [lenOk]; omega
      repeat' (first
 | (with_reducible apply EvK.seq)
 | (with_reducible apply EvK.block)
 | ((with_reducible apply EvK.text); (try case hm => exact rfl))
 | (with_reducible apply EvK.skip)
 | (with_reducible apply thenK_n)
 | ((with_reducible apply EvK.cond_t); (case hc => exact rfl))
 | ((with_reducible apply EvO.spd_t); (case hp => first | assumption | omega))
 | (with_reducible apply EvO.nilT)
 | (with_reducible apply EvO.nilB)
 | ((with_reducible apply EvO.u); (case hx => ((with_reducible apply OpR.apr); (case hs => exact fun _ => rfl); (case ha => exact rfl); (case ht => exact rfl); (case hr => first | (with_reducible exact rw0) | (with_reducible exact rw1) | (with_reducible exact rw2) | (with_reducible exact rw3) | (with_reducible exact rw4) | exact rfl); (case hx => exact rfl); (case hy => exact rfl); (case hn => exact rfl); (case hb => exact rfl); (case hok => exact rfl); (case hlen => exact hlX); (case hv => exact hsn); (case hk => (repeat' (first | exact KFr.nil | (with_reducible apply KFr.row) | (with_reducible apply KFr.boxt) | ((apply KFr.box); (case hd => (repeat' (first | exact LEq.nil | ((first | with_reducible apply LEq.cons | apply LEq.cons); (case h => (conv => lhs; whnf); try exact rfl))))))))); (case hf => (repeat' (first | exact LEq.nil | ((first | with_reducible apply LEq.cons | apply LEq.cons); (case h => (conv => lhs; whnf); try exact rfl))))))))
 | ((with_reducible apply EvO.u0); (case hx => first
 | ((with_reducible apply OpR.mv); (conv => lhs; whnf); try exact rfl)
 | ((with_reducible apply OpR.asg); (conv => lhs; whnf); try exact rfl)
 | ((with_reducible apply OpR.callF); (case hcal => exact rfl); (case hav => exact rfl); (case hx => exact rfl); (case hh => exact rfl); (case hm => exact rfl); (case hcl => exact kn); (case hr => exact rfl))
 | ((with_reducible apply OpR.callF); (case hcal => exact rfl); (case hav => exact rfl); (case hx => exact rfl); (case hh => exact rfl); (case hm => exact rfl); (case hcl => exact kh); (case hr => exact rfl))
 | ((with_reducible apply OpR.inc); (case hx => exact rfl); (case hy => exact rfl); (case h => omega))
 | ((with_reducible apply OpR.ix); (case he => first | (with_reducible exact el0) | (with_reducible exact el1) | (with_reducible exact el2) | (with_reducible exact el3) | (with_reducible exact el4) | (with_reducible exact el5) | (with_reducible exact el6) | (with_reducible exact el7) | exact rfl); (case hx => exact rfl); (case hi => exact rfl); (case hc => assumption); (case hz => exact rfl))
 | ((with_reducible apply OpR.al); (case hs => exact fun _ => rfl); (case hz => exact rfl); (case hc => (repeat' (first | exact LEq.nil | ((first | with_reducible apply LEq.cons | apply LEq.cons); (case h => (conv => lhs; whnf); try exact rfl))))); (case hn => (first | exact ln0 | exact ln1 | exact ln2 | exact ln3 | exact ln4 | exact ln5 | exact ln6 | exact ln7 | exact ln8 | exact ln9 | exact ln10 | exact ln11 | exact ln12 | exact ln13 | exact ln14)); (case hf => (repeat' (first | exact LEq.nil | ((first | with_reducible apply LEq.cons | apply LEq.cons); (case h => (conv => lhs; whnf); try exact rfl))))))
 | ((with_reducible apply OpR.stw); (case hs => exact fun _ => rfl); (case ha => exact rfl); (case hy => exact rfl); (case ht => first | (with_reducible exact sz0) | (with_reducible exact sz1) | (with_reducible exact sz2) | (with_reducible exact sz3) | (with_reducible exact sz4) | (with_reducible exact sz5) | (with_reducible exact sz6) | (with_reducible exact sz7) | (with_reducible exact sz8) | (with_reducible exact sz9) | exact rfl); (case ho => kernel_rfl); (case hl => kernel_rfl); (case hb => exact rfl); (case hc => kernel_rfl); (case hf => (repeat' (first | exact LEq.nil | ((first | with_reducible apply LEq.cons | apply LEq.cons); (case h => (conv => lhs; whnf); try exact rfl))))))
 | ((with_reducible apply OpR.ldw); (case hy => exact rfl); (case ht => first | (with_reducible exact sz0) | (with_reducible exact sz1) | (with_reducible exact sz2) | (with_reducible exact sz3) | (with_reducible exact sz4) | (with_reducible exact sz5) | (with_reducible exact sz6) | (with_reducible exact sz7) | (with_reducible exact sz8) | (with_reducible exact sz9)); (case hb => exact rfl); (case hl => kernel_rfl))
 | exact OpR.r fun _ => rfl))
 | fail)
      refine ⟨(k + 1, true), rfl, rfl, by dsimp only; omega, by dsimp only; omega⟩
  ·
    rw [List.take_of_length_le h3]
    repeat' (first
 | (with_reducible apply EvK.seq)
 | ((with_reducible apply EvK.text); (try case hm => exact rfl))
 | (with_reducible apply EvK.exit)
 | (with_reducible apply EvK.ret)
 | (with_reducible apply thenK_n)
 | (with_reducible apply thenK_e)
 | (with_reducible apply blockK_h)
 | ((with_reducible apply EvK.cond_f); (case hc => exact rfl))
 | ((with_reducible apply EvO.spd_f); (case hp => first | assumption | omega))
 | (with_reducible apply EvO.nilT)
 | ((with_reducible apply EvO.u0); (case hx => first
 | ((with_reducible apply OpR.mv); (conv => lhs; whnf); try exact rfl)
 | ((with_reducible apply OpR.asg); (conv => lhs; whnf); try exact rfl)
 | exact OpR.r fun _ => rfl))
 | fail)
    exact ⟨.inr rfl, rfl⟩
end Go.Proofs.YtgbfedgghjcdcaaGreatDoor

namespace Go.Proofs.YtgbfedgghjcdcaaGreatDoor
set_option linter.unusedSimpArgs false
set_option linter.unusedVariables false
set_option linter.unusedSectionVars false
open Go.RowKit
set_option maxRecDepth 100000
set_option maxHeartbeats 16000000

def z7 : AV := .agg [.arr [], .arr [], .arr [], .arr [], .arr [], .arr [], .arr []]
theorem valid0_c : Cl cfg 50 [.t z7] [] (.t (.bool true)) [] := ⟨14, by kernel_rfl⟩
theorem strict0_c : Cl cfg 51 [.t z7] [] (.t (.int .i64 0)) [] := ⟨14, by kernel_rfl⟩
theorem merged0_c : Cl cfg 28 [.t z7] [] (.ls 0) [.row false false 6 []] := ⟨14, by kernel_rfl⟩
def few0B (l : List Ev) : Bool := decide (l.length ≤ 60) && l.all fun e => decide (e.past.length ≤ 8)
theorem few0_c {l : List Ev} (hl : l.length ≤ 140737488351232) (hp : ∀ e ∈ l, e.past.length ≤ 140737488351232) : Cl cfg 11 [.t z7, .t (.arr (evsE l))] [] (.t (.bool (few0B l))) [] := by
  have hlE := evsE_len l
  have k1 := valid0_c
  have k2 := strict0_c
  have k3 := merged0_c
  unfold z7 at k1 k2 k3 ⊢
  have hz : ([] : List (List AV)).length = 0 := rfl
  refine Cl.of_body rfl Tryz.func11 rfl rfl rfl ?_
  by_cases h60 : l.length ≤ 60
  ·
    have e0 : few0B l = (l.drop 0).all fun e => decide (e.past.length ≤ 8) := by unfold few0B; simp [h60]
    rw [e0]
    repeat' (first
 | (with_reducible apply EvK.seq)
 | (with_reducible apply EvK.block)
 | ((with_reducible apply EvK.text); (try case hm => exact rfl))
 | (with_reducible apply EvK.skip)
 | (with_reducible apply thenK_n)
 | ((with_reducible apply EvK.cond_f); (case hc => exact rfl))
 | ((with_reducible apply EvO.spd_f); (case hp => first | assumption | omega))
 | ((with_reducible apply EvO.spd_yf); (case hp => first | assumption | omega))
 | (with_reducible apply EvO.nilT)
 | ((with_reducible apply EvO.gt0); (case hW => exact rfl); (case hx => first
 | ((with_reducible apply OpR.mv); (conv => lhs; whnf); try exact rfl)
 | ((with_reducible apply OpR.callF); (case hcal => exact rfl); (case hav => exact rfl); (case hx => exact rfl); (case hh => exact rfl); (case hm => exact rfl); (case hcl => exact k1); (case hr => exact rfl))
 | ((with_reducible apply OpR.len); (case ha => exact rfl); (case hy => exact rfl); (case ht => exact rfl); (case hs => exact rfl); (case hn => first | exact List.length_map _ | exact rfl))
 | ((with_reducible apply OpR.fal); (case hy => exact rfl); (case ho => exact rfl); (case hn => (conv => lhs; whnf); try exact rfl))
 | ((with_reducible apply OpR.ldw); (case hy => exact rfl); (case ht => first | (with_reducible exact sz10) | (with_reducible exact sz11) | (with_reducible exact sz12) | (with_reducible exact sz13) | (with_reducible exact sz14) | (with_reducible exact sz15) | (with_reducible exact sz16) | (with_reducible exact sz17) | (with_reducible exact sz18) | (with_reducible exact sz19) | (with_reducible exact sz20) | (with_reducible exact sz21) | (with_reducible exact sz22) | (with_reducible exact sz23) | (with_reducible exact sz24) | (with_reducible exact sz25) | (with_reducible exact sz26) | (with_reducible exact sz27) | (with_reducible exact sz28) | (with_reducible exact sz29) | (with_reducible exact sz30) | (with_reducible exact sz31) | (with_reducible exact sz32) | (with_reducible exact sz33) | (with_reducible exact sz34)); (case hb => exact rfl); (case hl => kernel_rfl))
 | exact OpR.r fun _ => rfl))
 | ((with_reducible apply EvO.u0); (case hx => first
 | ((with_reducible apply OpR.mv); (conv => lhs; whnf); try exact rfl)
 | ((with_reducible apply OpR.asg); (conv => lhs; whnf); try exact rfl)
 | ((with_reducible apply OpR.pk_f); (case hc => exact rfl); (case h => (conv => lhs; whnf); try exact rfl))
 | ((with_reducible apply OpR.len); (case ha => exact rfl); (case hy => exact rfl); (case ht => exact rfl); (case hs => exact rfl); (case hn => first | exact List.length_map _ | exact rfl))
 | ((with_reducible apply OpR.fal); (case hy => exact rfl); (case ho => exact rfl); (case hn => (conv => lhs; whnf); try exact rfl))
 | ((with_reducible apply OpR.bxt); (case hs => exact fun _ => rfl); (case hy => exact rfl); (case ho => kernel_rfl); (case hn => (first | exact ln0 | exact ln1 | exact ln2 | exact ln3 | exact ln4 | exact ln5 | exact ln6 | exact ln7 | exact ln8 | exact ln9 | exact ln10 | exact ln11 | exact ln12 | exact ln13 | exact ln14)); (case hf => (repeat' (first | exact LEq.nil | ((first | with_reducible apply LEq.cons | apply LEq.cons); (case h => (conv => lhs; whnf); try exact rfl))))))
 | exact OpR.r fun _ => rfl))
 | fail)
    apply EvK.loopV
    case ho => exact rfl
    case hp => exact rfl
    case hl => exact rfl
    case hs => repeat' (first | exact Slots.nil | (apply Slots.cons; (case hv => (conv => lhs; whnf); try exact rfl)))
    refine EvL.step ?_
    repeat' (first
 | (with_reducible apply EvK.seq)
 | (with_reducible apply EvK.block)
 | ((with_reducible apply EvK.text); (try case hm => exact rfl))
 | (with_reducible apply EvK.exit)
 | (with_reducible apply thenK_n)
 | (with_reducible apply thenK_e)
 | (with_reducible apply blockK_h)
 | ((with_reducible apply EvK.cond_f); (case hc => exact rfl))
 | ((with_reducible apply EvO.spd_f); (case hp => first | assumption | omega))
 | (with_reducible apply EvO.nilT)
 | ((with_reducible apply EvO.u0); (case hx => first
 | ((with_reducible apply OpR.mv); (conv => lhs; whnf); try exact rfl)
 | ((with_reducible apply OpR.asg); (conv => lhs; whnf); try exact rfl)
 | ((with_reducible apply OpR.len); (case ha => exact rfl); (case hy => exact rfl); (case ht => exact rfl); (case hs => exact rfl); (case hn => first | exact List.length_map _ | exact rfl))
 | ((with_reducible apply OpR.fal); (case hy => exact rfl); (case ho => exact rfl); (case hn => (conv => lhs; whnf); try exact rfl))
 | exact OpR.r fun _ => rfl))
 | fail)
    apply EvK.loopV
    case ho => exact rfl
    case hp => exact rfl
    case hl => exact rfl
    case hs => repeat' (first | exact Slots.nil | (apply Slots.cons; (case hv => (conv => lhs; whnf); try exact rfl)))
    refine EvL.step ?_
    repeat' (first
 | (with_reducible apply EvK.seq)
 | (with_reducible apply EvK.block)
 | ((with_reducible apply EvK.text); (try case hm => exact rfl))
 | ((with_reducible apply EvK.drawn); (case hm => exact rfl))
 | (with_reducible apply EvK.exit)
 | (with_reducible apply thenK_n)
 | (with_reducible apply thenK_e)
 | (with_reducible apply blockK_h)
 | ((with_reducible apply EvK.cond_f); (case hc => exact rfl))
 | ((with_reducible apply EvO.spd_f); (case hp => first | assumption | omega))
 | (with_reducible apply EvO.nilT)
 | ((with_reducible apply EvO.u0); (case hx => first
 | ((with_reducible apply OpR.mv); (conv => lhs; whnf); try exact rfl)
 | ((with_reducible apply OpR.asg); (conv => lhs; whnf); try exact rfl)
 | ((with_reducible apply OpR.callF); (case hcal => exact rfl); (case hav => exact rfl); (case hx => exact rfl); (case hh => exact rfl); (case hm => exact rfl); (case hcl => exact k2); (case hr => exact rfl))
 | ((with_reducible apply OpR.call); (case hcal => exact rfl); (case hav => exact rfl); (case hx => exact rfl); (case hh => exact rfl); (case hm => exact rfl); (case hcl => exact k3); (case hr => exact rfl))
 | ((with_reducible apply OpR.len); (case ha => exact rfl); (case hy => exact rfl); (case ht => exact rfl); (case hs => exact rfl); (case hn => first | exact List.length_map _ | exact rfl))
 | ((with_reducible apply OpR.fal); (case hy => exact rfl); (case ho => exact rfl); (case hn => (conv => lhs; whnf); try exact rfl))
 | ((with_reducible apply OpR.ldw); (case hy => exact rfl); (case ht => first | (with_reducible exact sz10) | (with_reducible exact sz11) | (with_reducible exact sz12) | (with_reducible exact sz13) | (with_reducible exact sz14) | (with_reducible exact sz15) | (with_reducible exact sz16) | (with_reducible exact sz17) | (with_reducible exact sz18) | (with_reducible exact sz19) | (with_reducible exact sz20) | (with_reducible exact sz21) | (with_reducible exact sz22) | (with_reducible exact sz23) | (with_reducible exact sz24) | (with_reducible exact sz25) | (with_reducible exact sz26) | (with_reducible exact sz27) | (with_reducible exact sz28) | (with_reducible exact sz29) | (with_reducible exact sz30) | (with_reducible exact sz31) | (with_reducible exact sz32) | (with_reducible exact sz33) | (with_reducible exact sz34)); (case hb => exact rfl); (case hl => kernel_rfl))
 | exact OpR.r fun _ => rfl))
 | fail)
    apply EvK.loopV
    case ho => exact rfl
    case hp => exact rfl
    case hl => exact rfl
    case hs => repeat' (first | exact Slots.nil | (apply Slots.cons; (case hv => (conv => lhs; whnf); try exact rfl)))
    refine EvL.step ?_
    repeat' (first
 | (with_reducible apply EvK.seq)
 | (with_reducible apply EvK.block)
 | ((with_reducible apply EvK.text); (try case hm => exact rfl))
 | (with_reducible apply EvK.exit)
 | (with_reducible apply thenK_n)
 | (with_reducible apply thenK_e)
 | (with_reducible apply blockK_h)
 | ((with_reducible apply EvK.cond_f); (case hc => exact rfl))
 | ((with_reducible apply EvO.spd_f); (case hp => first | assumption | omega))
 | (with_reducible apply EvO.nilT)
 | ((with_reducible apply EvO.u0); (case hx => first
 | ((with_reducible apply OpR.mv); (conv => lhs; whnf); try exact rfl)
 | ((with_reducible apply OpR.asg); (conv => lhs; whnf); try exact rfl)
 | ((with_reducible apply OpR.len); (case ha => exact rfl); (case hy => exact rfl); (case ht => exact rfl); (case hs => exact rfl); (case hn => first | exact List.length_map _ | exact rfl))
 | ((with_reducible apply OpR.fal); (case hy => exact rfl); (case ho => exact rfl); (case hn => (conv => lhs; whnf); try exact rfl))
 | exact OpR.r fun _ => rfl))
 | fail)
    apply EvK.loopV
    case ho => exact rfl
    case hp => exact rfl
    case hl => exact rfl
    case hs => repeat' (first | exact Slots.nil | (apply Slots.cons; (case hv => (conv => lhs; whnf); try exact rfl)))
    refine EvL.ind (fun q : Nat => [(13, .t (.int .i64 (q : Int)))]) (fun q => q ≤ l.length ∧ ((l.drop 0).all fun e => decide (e.past.length ≤ 8)) = (l.drop q).all fun e => decide (e.past.length ≤ 8)) (fun q => l.length - q) 0 rfl ⟨by omega, rfl⟩ (fun q hq => ?_)
    obtain ⟨h1, h2⟩ := hq
    rw [h2]
    rcases Nat.lt_or_ge q l.length with h3 | h3
    ·
      obtain ⟨e, he⟩ := get_of_lt h3
      have hc := evsE_get he
      have hle := intsE_len e.past
      have ha := all_hit (fun e : Ev => decide (e.past.length ≤ 8)) he
      by_cases h8 : e.past.length ≤ 8
      ·
        rw [decide_eq_true h8, Bool.true_and] at ha
        repeat' (first
 | (with_reducible apply EvK.seq)
 | (with_reducible apply EvK.block)
 | ((with_reducible apply EvK.text); (try case hm => exact rfl))
 | (with_reducible apply EvK.skip)
 | (with_reducible apply thenK_n)
 | (with_reducible apply blockK_n)
 | ((with_reducible apply EvK.cond_t); (case hc => exact rfl))
 | ((with_reducible apply EvK.cond_f); (case hc => exact rfl))
 | ((with_reducible apply EvO.spd_t); (case hp => first | assumption | omega))
 | ((with_reducible apply EvO.spd_f); (case hp => first | assumption | omega))
 | (with_reducible apply EvO.nilT)
 | ((with_reducible apply EvO.u0); (case hx => first
 | ((with_reducible apply OpR.mv); (conv => lhs; whnf); try exact rfl)
 | ((with_reducible apply OpR.asg); (conv => lhs; whnf); try exact rfl)
 | ((with_reducible apply OpR.inc); (case hx => exact rfl); (case hy => exact rfl); (case h => omega))
 | ((with_reducible apply OpR.len); (case ha => exact rfl); (case hy => exact rfl); (case ht => exact rfl); (case hs => exact rfl); (case hn => first | exact List.length_map _ | exact rfl))
 | ((with_reducible apply OpR.ix); (case he => first | (with_reducible exact el0) | (with_reducible exact el1) | (with_reducible exact el2) | (with_reducible exact el3) | (with_reducible exact el4) | (with_reducible exact el5) | (with_reducible exact el6) | (with_reducible exact el7) | exact rfl); (case hx => exact rfl); (case hi => exact rfl); (case hc => assumption); (case hz => exact rfl))
 | exact OpR.r fun _ => rfl))
 | fail)
        exact ⟨q + 1, rfl, rfl, ⟨by omega, ha⟩, by omega⟩
      ·
        rw [decide_eq_false h8, Bool.false_and] at ha
        rw [ha]
        repeat' (first
 | (with_reducible apply EvK.seq)
 | (with_reducible apply EvK.block)
 | ((with_reducible apply EvK.text); (try case hm => exact rfl))
 | (with_reducible apply EvK.skip)
 | (with_reducible apply EvK.ret)
 | (with_reducible apply thenK_n)
 | (with_reducible apply thenK_r)
 | (with_reducible apply blockK_r)
 | ((with_reducible apply EvK.cond_t); (case hc => exact rfl))
 | ((with_reducible apply EvO.spd_t); (case hp => first | assumption | omega))
 | (with_reducible apply EvO.nilT)
 | ((with_reducible apply EvO.u0); (case hx => first
 | ((with_reducible apply OpR.mv); (conv => lhs; whnf); try exact rfl)
 | ((with_reducible apply OpR.asg); (conv => lhs; whnf); try exact rfl)
 | ((with_reducible apply OpR.len); (case ha => exact rfl); (case hy => exact rfl); (case ht => exact rfl); (case hs => exact rfl); (case hn => first | exact List.length_map _ | exact rfl))
 | ((with_reducible apply OpR.ix); (case he => first | (with_reducible exact el0) | (with_reducible exact el1) | (with_reducible exact el2) | (with_reducible exact el3) | (with_reducible exact el4) | (with_reducible exact el5) | (with_reducible exact el6) | (with_reducible exact el7) | exact rfl); (case hx => exact rfl); (case hi => exact rfl); (case hc => assumption); (case hz => exact rfl))
 | exact OpR.r fun _ => rfl))
 | fail)
        exact ⟨.inr rfl, rfl⟩
    ·
      rw [alle _ h3]
      repeat' (first
 | (with_reducible apply EvK.seq)
 | ((with_reducible apply EvK.text); (try case hm => exact rfl))
 | (with_reducible apply EvK.exit)
 | (with_reducible apply EvK.ret)
 | (with_reducible apply thenK_n)
 | (with_reducible apply thenK_e)
 | (with_reducible apply blockK_h)
 | ((with_reducible apply EvK.cond_f); (case hc => exact rfl))
 | ((with_reducible apply EvO.spd_t); (case hp => first | assumption | omega))
 | ((with_reducible apply EvO.spd_f); (case hp => first | assumption | omega))
 | ((with_reducible apply EvO.spd_yt); (case hp => first | assumption | omega))
 | (with_reducible apply EvO.nilT)
 | ((with_reducible apply EvO.gt0); (case hW => exact rfl); (case hx => first
 | ((with_reducible apply OpR.mv); (conv => lhs; whnf); try exact rfl)
 | exact OpR.r fun _ => rfl))
 | ((with_reducible apply EvO.u0); (case hx => first
 | ((with_reducible apply OpR.mv); (conv => lhs; whnf); try exact rfl)
 | ((with_reducible apply OpR.asg); (conv => lhs; whnf); try exact rfl)
 | ((with_reducible apply OpR.pk_t); (case hc => exact rfl); (case h => (conv => lhs; whnf); try exact rfl))
 | ((with_reducible apply OpR.len); (case ha => exact rfl); (case hy => exact rfl); (case ht => exact rfl); (case hs => exact rfl); (case hn => first | exact List.length_map _ | exact rfl))
 | exact OpR.r fun _ => rfl))
 | fail)
      exact ⟨.inr rfl, rfl⟩
  ·
    have e0 : few0B l = false := by unfold few0B; simp [h60]
    rw [e0]
    repeat' (first
 | (with_reducible apply EvK.seq)
 | ((with_reducible apply EvK.text); (try case hm => exact rfl))
 | (with_reducible apply EvK.ret)
 | (with_reducible apply thenK_r)
 | ((with_reducible apply EvK.cond_t); (case hc => exact rfl))
 | ((with_reducible apply EvO.spd_f); (case hp => first | assumption | omega))
 | ((with_reducible apply EvO.spd_yt); (case hp => first | assumption | omega))
 | ((with_reducible apply EvO.spd_yf); (case hp => first | assumption | omega))
 | (with_reducible apply EvO.nilT)
 | ((with_reducible apply EvO.gf); (case hW => exact rfl))
 | ((with_reducible apply EvO.gt0); (case hW => exact rfl); (case hx => first
 | ((with_reducible apply OpR.mv); (conv => lhs; whnf); try exact rfl)
 | ((with_reducible apply OpR.len); (case ha => exact rfl); (case hy => exact rfl); (case ht => exact rfl); (case hs => exact rfl); (case hn => first | exact List.length_map _ | exact rfl))
 | ((with_reducible apply OpR.fal); (case hy => exact rfl); (case ho => exact rfl); (case hn => (conv => lhs; whnf); try exact rfl))
 | exact OpR.r fun _ => rfl))
 | ((with_reducible apply EvO.u0); (case hx => first
 | ((with_reducible apply OpR.mv); (conv => lhs; whnf); try exact rfl)
 | ((with_reducible apply OpR.asg); (conv => lhs; whnf); try exact rfl)
 | ((with_reducible apply OpR.pk_t); (case hc => exact rfl); (case h => (conv => lhs; whnf); try exact rfl))
 | ((with_reducible apply OpR.pk_f); (case hc => exact rfl); (case h => (conv => lhs; whnf); try exact rfl))
 | ((with_reducible apply OpR.len); (case ha => exact rfl); (case hy => exact rfl); (case ht => exact rfl); (case hs => exact rfl); (case hn => first | exact List.length_map _ | exact rfl))
 | ((with_reducible apply OpR.fal); (case hy => exact rfl); (case ho => exact rfl); (case hn => (conv => lhs; whnf); try exact rfl))
 | ((with_reducible apply OpR.bxt); (case hs => exact fun _ => rfl); (case hy => exact rfl); (case ho => kernel_rfl); (case hn => (first | exact ln0 | exact ln1 | exact ln2 | exact ln3 | exact ln4 | exact ln5 | exact ln6 | exact ln7 | exact ln8 | exact ln9 | exact ln10 | exact ln11 | exact ln12 | exact ln13 | exact ln14)); (case hf => (repeat' (first | exact LEq.nil | ((first | with_reducible apply LEq.cons | apply LEq.cons); (case h => (conv => lhs; whnf); try exact rfl))))))
 | exact OpR.r fun _ => rfl))
 | fail)
    exact ⟨.inr rfl, rfl⟩
end Go.Proofs.YtgbfedgghjcdcaaGreatDoor
