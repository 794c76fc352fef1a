/- Law 52: SessionServes. No condition. -/
import Derived.Test.YtjdhnoffoknlnaaGreatDoorYA
import Derived.Test.YtjdhnoffoknlnaaGreatDoorXC
namespace Go.Proofs.YtjdhnoffoknlnaaGreatDoor
set_option linter.unusedSimpArgs false
set_option linter.unusedVariables false
set_option linter.unusedSectionVars false
open Go.RowKit
set_option maxRecDepth 100000
set_option maxHeartbeats 8000000

theorem span_eq (a b c a' b' c' : Int) : eqC cfg.P 20 53 [.int .i64 a, .int .i64 b, .int .i64 c] [.int .i64 a', .int .i64 b', .int .i64 c'] = some (decide (a = a') && (decide (b = b') && (decide (c = c') && true))) := by kernel_rfl
theorem span_g : cfg.P.eqGuardType cfg.P.depth 53 = false := by kernel_rfl
theorem span_same (s : Sp) : eqC cfg.P 20 53 (spCs s) (spCs s) = some true := by
  unfold spCs
  rw [span_eq]
  simp
theorem rformat_bad {c : List Int} (hv : validB c = false) (hc : c.length ≤ 1000) : Cl cfg 16 [.t (intsA c)] [] (.t (.str (bs []))) [] := by
  have h := rvalid_c (xs := c) (by omega)
  rw [hv] at h
  refine Cl.of_body rfl Tryz.func16 rfl rfl rfl ?_
  repeat' (first
     | (with_reducible apply EvK.seq)
     | (with_reducible apply EvK.text)
     | (with_reducible apply EvK.ret)
     | (with_reducible apply thenK_r)
     | ((with_reducible apply EvK.cond_t); (case hc => exact rfl))
     | (with_reducible apply EvO.nilT)
     | ((with_reducible apply EvO.u0); (case hx => first
        | ((with_reducible apply OpR.mv); (conv => lhs; whnf); try exact rfl)
        | ((with_reducible apply OpR.asg); (conv => lhs; whnf); try exact rfl)
        | ((with_reducible apply OpR.callF); (case hcal => exact rfl); (case hav => exact rfl); (case hx => exact rfl); (case hh => exact rfl); (case hm => exact rfl); (case hcl => exact h); (case hr => exact rfl))
        | exact OpR.r fun _ => rfl))
     | fail)
  exact ⟨.inr rfl, rfl⟩
theorem idxS_none {α : Type} (p : α → Bool) : ∀ (xs : List α) (i : Int), 0 ≤ i → (0 ≤ idxS p xs i ∨ idxS p xs i = -1) ∧ idxS p xs i ≤ i + xs.length
  | [], i, h => ⟨.inr rfl, by simp [idxS]; omega⟩
  | x :: xs, i, h => by
    rw [idxS_cons]
    split
    · exact ⟨.inl h, by simp; omega⟩
    · have := idxS_none p xs (i + 1) (by omega)
      refine ⟨this.1, ?_⟩
      have := this.2
      simp; omega
theorem idxS_app {α : Type} (p : α → Bool) (x : α) : ∀ (xs : List α) (i : Int), 0 ≤ i → idxS p (xs ++ [x]) i = if 0 ≤ idxS p xs i then idxS p xs i else (if p x then i + xs.length else -1)
  | [], i, h => by simp [idxS]
  | y :: xs, i, h => by
    rw [List.cons_append, idxS_cons, idxS_cons]
    split
    · simp [h]
    · rw [idxS_app p x xs (i + 1) (by omega)]
      simp only [List.length_cons]
      split
      · rfl
      · split
        · omega
        · rfl
theorem idxS_step {α : Type} {p : α → Bool} {l : List α} {q : Nat} {x : α} (h : l[q]? = some x) : idxS p (l.take (q + 1)) 0 = if 0 ≤ idxS p (l.take q) 0 then idxS p (l.take q) 0 else (if p x then (q : Int) else -1) := by
  rw [List.take_add_one, h]
  show idxS p (l.take q ++ [x]) 0 = _
  rw [idxS_app p x _ 0 (by omega)]
  have := lt_of_get h
  rw [List.length_take]
  have e : ((min q l.length : Nat) : Int) = q := by omega
  rw [e, Int.zero_add]
theorem cont_alike {a b : List Int} (h : contB' a b = true) : alikeB [a, b] = true ∧ missL a b a.length = [] := by
  have h' := h
  rw [cont_eq', rCont_iff] at h'
  obtain ⟨hva, hvb, hl, hle⟩ := h'
  simp only [contB', Bool.and_eq_true] at h
  refine ⟨h.1, ?_⟩
  have : ∀ k, k ≤ a.length → missL a b k = [] := by
    intro k
    induction k with
    | zero => intro _; rfl
    | succ k ih =>
      intro hk
      obtain ⟨n, hn⟩ := get_of_lt (xs := a) (k := k) (by omega)
      obtain ⟨m, hm⟩ := get_of_lt (xs := b) (k := k) (by omega)
      rw [miss_ge' hn hm (by have := hle k n m hn hm; omega)]
      exact ih (by omega)
  exact this _ (Nat.le_refl _)
theorem law_serves (c : List Int) (l : List (List Int)) (hcl : c.length ≤ 17592186044416) (hl : l.length ≤ 17592186044416) (hx : ∀ x ∈ l, x.length ≤ 17592186044416) : Cl cfg 4 [.t (intsA c), .t (clksA l)] [] (.t (.bool true)) [] := by
  have hn0 : ([] : List (List AV)).length = 0 := rfl
  have hn1 : ([] : List Sp).length = 0 := rfl
  have hz := fewz_c (l := [c]) (by simp)
  have hf := fewz_c (l := l) (by omega)
  refine Cl.of_body rfl Tryz.func4 rfl rfl rfl ?_
  cases hz1 : fewC [c] with
  | false =>
    rw [hz1] at hz
    repeat' (first
       | (with_reducible apply EvK.seq)
       | (with_reducible apply EvK.text)
       | (with_reducible apply EvK.skip)
       | (with_reducible apply EvK.ret)
       | (with_reducible apply thenK_n)
       | (with_reducible apply thenK_r)
       | ((with_reducible apply EvK.cond_t); (case hc => exact rfl))
       | ((with_reducible apply EvK.cond_f); (case hc => exact rfl))
       | (with_reducible apply EvO.nilT)
       | ((with_reducible apply EvO.gf); (case hW => exact rfl))
       | ((with_reducible apply EvO.u0); (case hx => first
          | ((with_reducible apply OpR.mv); (conv => lhs; whnf); try exact rfl)
          | ((with_reducible apply OpR.asg); (conv => lhs; whnf); try exact rfl)
          | ((with_reducible apply OpR.pk_t); (case hc => exact rfl); (case h => (conv => lhs; whnf); try exact rfl))
          | ((with_reducible apply OpR.callF); (case hcal => exact rfl); (case hav => exact rfl); (case hx => exact rfl); (case hh => exact rfl); (case hm => exact rfl); (case hcl => exact awakeZ_c); (case hr => exact rfl))
          | ((with_reducible apply OpR.callF); (case hcal => exact rfl); (case hav => exact rfl); (case hx => exact rfl); (case hh => exact rfl); (case hm => exact rfl); (case hcl => exact hz); (case hr => exact rfl))
          | exact OpR.r fun _ => rfl))
       | fail)
    exact ⟨.inr rfl, rfl⟩
  | true =>
  rw [hz1] at hz
  cases hf1 : fewC l with
  | false =>
    rw [hf1] at hf
    repeat' (first
       | (with_reducible apply EvK.seq)
       | (with_reducible apply EvK.text)
       | (with_reducible apply EvK.skip)
       | (with_reducible apply EvK.ret)
       | (with_reducible apply thenK_n)
       | (with_reducible apply thenK_r)
       | ((with_reducible apply EvK.cond_t); (case hc => exact rfl))
       | ((with_reducible apply EvK.cond_f); (case hc => exact rfl))
       | (with_reducible apply EvO.nilT)
       | ((with_reducible apply EvO.gt0); (case hW => exact rfl); (case hx => first
          | ((with_reducible apply OpR.mv); (conv => lhs; whnf); try exact rfl)
          | ((with_reducible apply OpR.callF); (case hcal => exact rfl); (case hav => exact rfl); (case hx => exact rfl); (case hh => exact rfl); (case hm => exact rfl); (case hcl => exact hf); (case hr => exact rfl))
          | exact OpR.r fun _ => rfl))
       | ((with_reducible apply EvO.u0); (case hx => first
          | ((with_reducible apply OpR.mv); (conv => lhs; whnf); try exact rfl)
          | ((with_reducible apply OpR.asg); (conv => lhs; whnf); try exact rfl)
          | ((with_reducible apply OpR.pk_f); (case hc => exact rfl); (case h => (conv => lhs; whnf); try exact rfl))
          | ((with_reducible apply OpR.callF); (case hcal => exact rfl); (case hav => exact rfl); (case hx => exact rfl); (case hh => exact rfl); (case hm => exact rfl); (case hcl => exact awakeZ_c); (case hr => exact rfl))
          | ((with_reducible apply OpR.callF); (case hcal => exact rfl); (case hav => exact rfl); (case hx => exact rfl); (case hh => exact rfl); (case hm => exact rfl); (case hcl => exact hz); (case hr => exact rfl))
          | exact OpR.r fun _ => rfl))
       | fail)
    exact ⟨.inr rfl, rfl⟩
  | true =>
  rw [hf1] at hf
  have hc8 : c.length ≤ 8 := by simp [fewC, few1C] at hz1; omega
  have hl20 : l.length ≤ 20 ∧ ∀ x ∈ l, x.length ≤ 8 := by
    simp only [fewC, Bool.and_eq_true, List.all_eq_true, few1C, decide_eq_true_eq] at hf1
    exact ⟨hf1.2, hf1.1⟩
  obtain ⟨hl20, hx8⟩ := hl20
  have hv0 := rvalid_c (xs := c) (by omega)
  cases hvv : validB c with
  | false =>
    rw [hvv] at hv0
    repeat' (first
       | (with_reducible apply EvK.seq)
       | (with_reducible apply EvK.text)
       | (with_reducible apply EvK.skip)
       | (with_reducible apply EvK.ret)
       | (with_reducible apply thenK_n)
       | (with_reducible apply thenK_r)
       | ((with_reducible apply EvK.cond_t); (case hc => exact rfl))
       | ((with_reducible apply EvK.cond_f); (case hc => exact rfl))
       | ((with_reducible apply EvO.spd_yt); (case hp => first | assumption | omega))
       | (with_reducible apply EvO.nilT)
       | ((with_reducible apply EvO.gt0); (case hW => exact rfl); (case hx => first
          | ((with_reducible apply OpR.mv); (conv => lhs; whnf); try exact rfl)
          | ((with_reducible apply OpR.callF); (case hcal => exact rfl); (case hav => exact rfl); (case hx => exact rfl); (case hh => exact rfl); (case hm => exact rfl); (case hcl => exact hf); (case hr => exact rfl))
          | exact OpR.r fun _ => rfl))
       | ((with_reducible apply EvO.u0); (case hx => first
          | ((with_reducible apply OpR.mv); (conv => lhs; whnf); try exact rfl)
          | ((with_reducible apply OpR.asg); (conv => lhs; whnf); try exact rfl)
          | ((with_reducible apply OpR.pk_t); (case hc => exact rfl); (case h => (conv => lhs; whnf); try exact rfl))
          | ((with_reducible apply OpR.pk_f); (case hc => exact rfl); (case h => (conv => lhs; whnf); try exact rfl))
          | ((with_reducible apply OpR.callF); (case hcal => exact rfl); (case hav => exact rfl); (case hx => exact rfl); (case hh => exact rfl); (case hm => exact rfl); (case hcl => exact awakeZ_c); (case hr => exact rfl))
          | ((with_reducible apply OpR.callF); (case hcal => exact rfl); (case hav => exact rfl); (case hx => exact rfl); (case hh => exact rfl); (case hm => exact rfl); (case hcl => exact hz); (case hr => exact rfl))
          | ((with_reducible apply OpR.callF); (case hcal => exact rfl); (case hav => exact rfl); (case hx => exact rfl); (case hh => exact rfl); (case hm => exact rfl); (case hcl => exact hv0); (case hr => exact rfl))
          | ((with_reducible apply OpR.callF); (case hcal => exact rfl); (case hav => exact rfl); (case hx => exact rfl); (case hh => exact rfl); (case hm => exact rfl); (case hcl => exact rformat_bad hvv (by omega)); (case hr => exact rfl))
          | ((with_reducible apply OpR.callF); (case hcal => exact rfl); (case hav => exact rfl); (case hx => exact rfl); (case hh => exact rfl); (case hm => exact rfl); (case hcl => exact open_empty); (case hr => exact rfl))
          | exact OpR.r fun _ => rfl))
       | fail)
    exact ⟨.inr rfl, rfl⟩
  | true =>
    rw [hvv] at hv0
    have hne : c ≠ [] := by rintro rfl; simp [validB] at hvv
    have hck := clock_c (c := c) (by omega) hne
    have hI := rints_c (a := c) (b := c) (by omega) (by omega)
    rw [beq_self_eq_true] at hI
    have hch := choose_c (c := c) (l := l) (by omega) (fun x h => by have := hx8 x h; omega) (by omega)
    repeat' (first
       | (with_reducible apply EvK.seq)
       | (with_reducible apply EvK.block)
       | (with_reducible apply EvK.text)
       | (with_reducible apply EvK.skip)
       | (with_reducible apply thenK_n)
       | ((with_reducible apply EvK.cond_f); (case hc => exact rfl))
       | ((with_reducible apply EvO.spn_f); (case hp => first | assumption | omega))
       | (with_reducible apply EvO.nilT)
       | ((with_reducible apply EvO.gt0); (case hW => exact rfl); (case hx => first
          | ((with_reducible apply OpR.mv); (conv => lhs; whnf); try exact rfl)
          | ((with_reducible apply OpR.callF); (case hcal => exact rfl); (case hav => exact rfl); (case hx => exact rfl); (case hh => exact rfl); (case hm => exact rfl); (case hcl => exact hf); (case hr => exact rfl))
          | ((with_reducible apply OpR.callF); (case hcal => exact rfl); (case hav => exact rfl); (case hx => exact rfl); (case hh => exact rfl); (case hm => exact rfl); (case hcl => exact hI); (case hr => exact rfl))
          | ((with_reducible apply OpR.callQ [0]); (case hdr => exact rfl); (case hcal => exact rfl); (case hav => exact rfl); (case hx => exact rfl); (case hh => exact rfl); (case hs0 => kernel_rfl); (case hf => kernel_rfl); (case hg => exact rfl); (case hc => kernel_rfl); (case hm => exact rfl); (case hb => exact rfl); (case hcl => exact hck); (case hk => exact rfl); (case hv => (conv => lhs; whnf); try exact rfl); (case hl => (repeat' (first | exact LEq.nil | ((with_reducible apply LEq.cons); (case h => (conv => lhs; whnf); try exact rfl)) | (apply LEq.cons; (case h => (conv => lhs; whnf); try exact rfl))))); (case hq => exact rfl))
          | exact OpR.r fun _ => rfl))
       | ((with_reducible apply EvO.u0); (case hx => first
          | ((with_reducible apply OpR.mv); (conv => lhs; whnf); try exact rfl)
          | ((with_reducible apply OpR.asg); (conv => lhs; whnf); try exact rfl)
          | ((with_reducible apply OpR.pk_f); (case hc => exact rfl); (case h => (conv => lhs; whnf); try exact rfl))
          | ((with_reducible apply OpR.callF); (case hcal => exact rfl); (case hav => exact rfl); (case hx => exact rfl); (case hh => exact rfl); (case hm => exact rfl); (case hcl => exact awakeZ_c); (case hr => exact rfl))
          | ((with_reducible apply OpR.callF); (case hcal => exact rfl); (case hav => exact rfl); (case hx => exact rfl); (case hh => exact rfl); (case hm => exact rfl); (case hcl => exact hz); (case hr => exact rfl))
          | ((with_reducible apply OpR.callF); (case hcal => exact rfl); (case hav => exact rfl); (case hx => exact rfl); (case hh => exact rfl); (case hm => exact rfl); (case hcl => exact hv0); (case hr => exact rfl))
          | ((with_reducible apply OpR.callF); (case hcal => exact rfl); (case hav => exact rfl); (case hx => exact rfl); (case hh => exact rfl); (case hm => exact rfl); (case hcl => exact rformat_c hvv); (case hr => exact rfl))
          | ((with_reducible apply OpR.callX); (case hcal => exact rfl); (case hav => exact rfl); (case hx => exact rfl); (case hh => exact rfl); (case hm => exact rfl); (case hcl => exact open_ok hvv); (case hr => exact rfl); (case hd => exact rfl); (case hq => kernel_rfl); (case hn => (first | exact ln0 | exact ln1 | exact ln2 | exact ln3 | exact ln4 | exact ln5 | exact ln6 | exact ln7 | exact ln8 | exact ln9 | exact ln10 | exact ln11 | exact ln12 | exact ln13 | exact ln14)); (case hv => (conv => lhs; whnf); try exact rfl); (case he => (repeat' (first | exact XFr.nil | (with_reducible apply XFr.row) | (with_reducible apply XFr.boxt) | ((apply XFr.box); (case hd => (repeat' (first | exact LEq.nil | ((with_reducible apply LEq.cons); (case h => (conv => lhs; whnf); try exact rfl)) | (apply LEq.cons; (case h => (conv => lhs; whnf); try exact rfl))))))))); (case hf => (repeat' (first | exact LEq.nil | ((with_reducible apply LEq.cons); (case h => (conv => lhs; whnf); try exact rfl)) | (apply LEq.cons; (case h => (conv => lhs; whnf); try exact rfl))))))
          | ((with_reducible apply OpR.len); (case ha => exact rfl); (case hy => exact rfl); (case ht => exact rfl); (case hs => exact rfl); (case hn => first | exact List.length_map _ | exact rfl))
          | exact OpR.r fun _ => rfl))
       | fail)
    apply EvK.loopV
    case ho => exact rfl
    case hp => exact rfl
    case hl => exact rfl
    case hs => repeat' (first | exact Slots.nil | (apply Slots.cons; (case hv => (conv => lhs; whnf); try exact rfl)))
    refine EvL.ind (fun s : Nat × Int => [(7, .t (.int .i64 s.2)), (55, .t (.int .i64 (s.1 : Int)))]) (fun s => s.1 ≤ l.length ∧ s.2 = idxS (fun x => contB' x c) (l.take s.1) 0) (fun s => l.length - s.1) (0, -1) rfl ⟨by simp, rfl⟩ (fun s hs => ?_)
    obtain ⟨q, F⟩ := s
    obtain ⟨h1, h2⟩ := hs
    simp only at h1 h2
    dsimp only
    rcases Nat.lt_or_ge q l.length with h3 | h3
    ·
      obtain ⟨x, hn⟩ := get_of_lt h3
      have hg := clksE_get hn
      have hx8 := hx8 x (List.mem_of_getElem? hn)
      have hst := idxS_step (p := fun x => contB' x c) hn
      rw [← h2] at hst
      have hR := rcont_c (a := x) (b := c) (by omega) (by omega)
      have hr := ready_c (c := c) (x := x) (by omega) (by omega)
      rw [← cont_eq'] at hR
      cases hab : alikeB [x, c] with
      | false =>
        have hnr : contB' x c = false := by simp [contB', hab]
        rw [hnr] at hR hr
        have hm := lacks_n hab (by omega) (by omega)
        have hm' := rmissing_n hab (by omega) (by omega)
        repeat' (first
           | (with_reducible apply EvK.seq)
           | (with_reducible apply EvK.block)
           | (with_reducible apply EvK.text)
           | (with_reducible apply EvK.skip)
           | (with_reducible apply thenK_n)
           | ((with_reducible apply EvK.cond_t); (case hc => exact rfl))
           | ((with_reducible apply EvK.cond_f); (case hc => exact rfl))
           | ((with_reducible apply EvO.spd_t); (case hp => first | assumption | omega))
           | ((with_reducible apply EvO.spn_yf); (case hp => first | assumption | omega))
           | (with_reducible apply EvO.nilT)
           | ((with_reducible apply EvO.gf); (case hW => exact rfl))
           | ((with_reducible apply EvO.gt0); (case hW => exact rfl); (case hx => first
              | ((with_reducible apply OpR.mv); (conv => lhs; whnf); try exact rfl)
              | ((with_reducible apply OpR.pk_f); (case hc => exact rfl); (case h => (conv => lhs; whnf); try exact rfl))
              | ((with_reducible apply OpR.len); (case ha => exact rfl); (case hy => exact rfl); (case ht => exact rfl); (case hs => exact rfl); (case hn => first | exact List.length_map _ | exact rfl))
              | exact OpR.r fun _ => rfl))
           | ((with_reducible apply EvO.u0); (case hx => first
              | ((with_reducible apply OpR.mv); (conv => lhs; whnf); try exact rfl)
              | ((with_reducible apply OpR.asg); (conv => lhs; whnf); try exact rfl)
              | ((with_reducible apply OpR.pk_f); (case hc => exact rfl); (case h => (conv => lhs; whnf); try exact rfl))
              | ((with_reducible apply OpR.callF); (case hcal => exact rfl); (case hav => exact rfl); (case hx => exact rfl); (case hh => exact rfl); (case hm => exact rfl); (case hcl => exact hR); (case hr => exact rfl))
              | ((with_reducible apply OpR.callX); (case hcal => exact rfl); (case hav => exact rfl); (case hx => exact rfl); (case hh => exact rfl); (case hm => exact rfl); (case hcl => exact hm'); (case hr => exact rfl); (case hd => exact rfl); (case hq => kernel_rfl); (case hn => (first | exact ln0 | exact ln1 | exact ln2 | exact ln3 | exact ln4 | exact ln5 | exact ln6 | exact ln7 | exact ln8 | exact ln9 | exact ln10 | exact ln11 | exact ln12 | exact ln13 | exact ln14)); (case hv => (conv => lhs; whnf); try exact rfl); (case he => (repeat' (first | exact XFr.nil | (with_reducible apply XFr.row) | (with_reducible apply XFr.boxt) | ((apply XFr.box); (case hd => (repeat' (first | exact LEq.nil | ((with_reducible apply LEq.cons); (case h => (conv => lhs; whnf); try exact rfl)) | (apply LEq.cons; (case h => (conv => lhs; whnf); try exact rfl))))))))); (case hf => (repeat' (first | exact LEq.nil | ((with_reducible apply LEq.cons); (case h => (conv => lhs; whnf); try exact rfl)) | (apply LEq.cons; (case h => (conv => lhs; whnf); try exact rfl))))))
              | ((with_reducible apply OpR.callQ [0]); (case hdr => exact rfl); (case hcal => exact rfl); (case hav => exact rfl); (case hx => exact rfl); (case hh => exact rfl); (case hs0 => kernel_rfl); (case hf => kernel_rfl); (case hg => exact rfl); (case hc => kernel_rfl); (case hm => exact rfl); (case hb => exact rfl); (case hcl => exact hm); (case hk => exact rfl); (case hv => (conv => lhs; whnf); try exact rfl); (case hl => (repeat' (first | exact LEq.nil | ((with_reducible apply LEq.cons); (case h => (conv => lhs; whnf); try exact rfl)) | (apply LEq.cons; (case h => (conv => lhs; whnf); try exact rfl))))); (case hq => exact rfl))
              | ((with_reducible apply OpR.callQ [0]); (case hdr => exact rfl); (case hcal => exact rfl); (case hav => exact rfl); (case hx => exact rfl); (case hh => exact rfl); (case hs0 => kernel_rfl); (case hf => kernel_rfl); (case hg => exact rfl); (case hc => kernel_rfl); (case hm => exact rfl); (case hb => exact rfl); (case hcl => exact hr); (case hk => exact rfl); (case hv => (conv => lhs; whnf); try exact rfl); (case hl => (repeat' (first | exact LEq.nil | ((with_reducible apply LEq.cons); (case h => (conv => lhs; whnf); try exact rfl)) | (apply LEq.cons; (case h => (conv => lhs; whnf); try exact rfl))))); (case hq => exact rfl))
              | ((with_reducible apply OpR.len); (case ha => exact rfl); (case hy => exact rfl); (case ht => exact rfl); (case hs => exact rfl); (case hn => first | exact List.length_map _ | exact rfl))
              | ((with_reducible apply OpR.ix); (case he => first | (with_reducible exact el0) | (with_reducible exact el1) | (with_reducible exact el2) | (with_reducible exact el3) | (with_reducible exact el4) | (with_reducible exact el5) | (with_reducible exact el6) | (with_reducible exact el7) | exact rfl); (case hx => exact rfl); (case hi => exact rfl); (case hc => assumption); (case hz => exact rfl))
              | exact OpR.r fun _ => rfl))
           | fail)
        apply EvK.loopV
        case ho => exact rfl
        case hp => exact rfl
        case hl => exact rfl
        case hs => repeat' (first | exact Slots.nil | (apply Slots.cons; (case hv => (conv => lhs; whnf); try exact rfl)))
        refine EvL.step ?_
        repeat' (first
           | (with_reducible apply EvK.seq)
           | (with_reducible apply EvK.text)
           | (with_reducible apply EvK.exit)
           | (with_reducible apply thenK_n)
           | (with_reducible apply thenK_e)
           | (with_reducible apply blockK_n)
           | (with_reducible apply blockK_h)
           | ((with_reducible apply EvK.cond_f); (case hc => exact rfl))
           | ((with_reducible apply EvO.spd_f); (case hp => first | assumption | omega))
           | (with_reducible apply EvO.nilT)
           | ((with_reducible apply EvO.u0); (case hx => first
              | ((with_reducible apply OpR.mv); (conv => lhs; whnf); try exact rfl)
              | ((with_reducible apply OpR.inc); (case hx => exact rfl); (case hy => exact rfl); (case h => omega))
              | exact OpR.r fun _ => rfl))
           | fail)
        refine ⟨(q + 1, F), rfl, rfl, ⟨by dsimp only; omega, ?_⟩, by dsimp only; omega⟩
        dsimp only
        rw [hst]
        have := (idxS_none (fun x => contB' x c) (l.take q) 0 (by omega)).1
        rw [← h2] at this
        simp [hnr]; omega
      | true =>
        have hm := lacks_c hab
        have hm' := rmissing_c hab
        obtain ⟨L, hL⟩ : ∃ L, missL x c x.length = L := ⟨_, rfl⟩
        have hLl := missL_len x c x.length
        rw [hL] at hm hm' hLl
        have hLe := spsE_len L
        cases hcr : contB' x c with
        | false =>
          rw [hcr] at hR hr
          repeat' (first
             | (with_reducible apply EvK.seq)
             | (with_reducible apply EvK.block)
             | (with_reducible apply EvK.text)
             | (with_reducible apply EvK.skip)
             | (with_reducible apply thenK_n)
             | ((with_reducible apply EvK.cond_t); (case hc => exact rfl))
             | ((with_reducible apply EvK.cond_f); (case hc => exact rfl))
             | ((with_reducible apply EvO.spd_t); (case hp => first | assumption | omega))
             | ((with_reducible apply EvO.spn_yf); (case hp => first | assumption | omega))
             | (with_reducible apply EvO.nilT)
             | ((with_reducible apply EvO.gf); (case hW => exact rfl))
             | ((with_reducible apply EvO.gt0); (case hW => exact rfl); (case hx => first
                | ((with_reducible apply OpR.mv); (conv => lhs; whnf); try exact rfl)
                | ((with_reducible apply OpR.pk_f); (case hc => exact rfl); (case h => (conv => lhs; whnf); try exact rfl))
                | ((with_reducible apply OpR.len); (case ha => exact rfl); (case hy => exact rfl); (case ht => exact rfl); (case hs => exact rfl); (case hn => first | exact List.length_map _ | exact rfl))
                | exact OpR.r fun _ => rfl))
             | ((with_reducible apply EvO.u0); (case hx => first
                | ((with_reducible apply OpR.mv); (conv => lhs; whnf); try exact rfl)
                | ((with_reducible apply OpR.asg); (conv => lhs; whnf); try exact rfl)
                | ((with_reducible apply OpR.pk_f); (case hc => exact rfl); (case h => (conv => lhs; whnf); try exact rfl))
                | ((with_reducible apply OpR.callF); (case hcal => exact rfl); (case hav => exact rfl); (case hx => exact rfl); (case hh => exact rfl); (case hm => exact rfl); (case hcl => exact hR); (case hr => exact rfl))
                | ((with_reducible apply OpR.callX); (case hcal => exact rfl); (case hav => exact rfl); (case hx => exact rfl); (case hh => exact rfl); (case hm => exact rfl); (case hcl => exact hm'); (case hr => exact rfl); (case hd => exact rfl); (case hq => kernel_rfl); (case hn => (first | exact ln0 | exact ln1 | exact ln2 | exact ln3 | exact ln4 | exact ln5 | exact ln6 | exact ln7 | exact ln8 | exact ln9 | exact ln10 | exact ln11 | exact ln12 | exact ln13 | exact ln14)); (case hv => (conv => lhs; whnf); try exact rfl); (case he => (repeat' (first | exact XFr.nil | (with_reducible apply XFr.row) | (with_reducible apply XFr.boxt) | ((apply XFr.box); (case hd => (repeat' (first | exact LEq.nil | ((with_reducible apply LEq.cons); (case h => (conv => lhs; whnf); try exact rfl)) | (apply LEq.cons; (case h => (conv => lhs; whnf); try exact rfl))))))))); (case hf => (repeat' (first | exact LEq.nil | ((with_reducible apply LEq.cons); (case h => (conv => lhs; whnf); try exact rfl)) | (apply LEq.cons; (case h => (conv => lhs; whnf); try exact rfl))))))
                | ((with_reducible apply OpR.callQ [0]); (case hdr => exact rfl); (case hcal => exact rfl); (case hav => exact rfl); (case hx => exact rfl); (case hh => exact rfl); (case hs0 => kernel_rfl); (case hf => kernel_rfl); (case hg => exact rfl); (case hc => kernel_rfl); (case hm => exact rfl); (case hb => exact rfl); (case hcl => exact hm); (case hk => exact rfl); (case hv => (conv => lhs; whnf); try exact rfl); (case hl => (repeat' (first | exact LEq.nil | ((with_reducible apply LEq.cons); (case h => (conv => lhs; whnf); try exact rfl)) | (apply LEq.cons; (case h => (conv => lhs; whnf); try exact rfl))))); (case hq => exact rfl))
                | ((with_reducible apply OpR.callQ [0]); (case hdr => exact rfl); (case hcal => exact rfl); (case hav => exact rfl); (case hx => exact rfl); (case hh => exact rfl); (case hs0 => kernel_rfl); (case hf => kernel_rfl); (case hg => exact rfl); (case hc => kernel_rfl); (case hm => exact rfl); (case hb => exact rfl); (case hcl => exact hr); (case hk => exact rfl); (case hv => (conv => lhs; whnf); try exact rfl); (case hl => (repeat' (first | exact LEq.nil | ((with_reducible apply LEq.cons); (case h => (conv => lhs; whnf); try exact rfl)) | (apply LEq.cons; (case h => (conv => lhs; whnf); try exact rfl))))); (case hq => exact rfl))
                | ((with_reducible apply OpR.len); (case ha => exact rfl); (case hy => exact rfl); (case ht => exact rfl); (case hs => exact rfl); (case hn => first | exact List.length_map _ | exact rfl))
                | ((with_reducible apply OpR.ix); (case he => first | (with_reducible exact el0) | (with_reducible exact el1) | (with_reducible exact el2) | (with_reducible exact el3) | (with_reducible exact el4) | (with_reducible exact el5) | (with_reducible exact el6) | (with_reducible exact el7) | exact rfl); (case hx => exact rfl); (case hi => exact rfl); (case hc => assumption); (case hz => exact rfl))
                | exact OpR.r fun _ => rfl))
             | fail)
          apply EvK.loopV
          case ho => exact rfl
          case hp => exact rfl
          case hl => exact rfl
          case hs => repeat' (first | exact Slots.nil | (apply Slots.cons; (case hv => (conv => lhs; whnf); try exact rfl)))
          refine EvL.ind (fun k : Nat => [(97, .t (.int .i64 (k : Int)))]) (fun k => k ≤ L.length) (fun k => L.length - k) 0 rfl (by omega) (fun k hk => ?_)
          rcases Nat.lt_or_ge k L.length with h4 | h4
          ·
            obtain ⟨s, hs⟩ := get_of_lt h4
            have hsg := spsE_get hs
            have hkl : k < (spsE L).length := by omega
            repeat' (first
               | (with_reducible apply EvK.seq)
               | (with_reducible apply EvK.block)
               | (with_reducible apply EvK.text)
               | (with_reducible apply EvK.drawn)
               | (with_reducible apply EvK.skip)
               | (with_reducible apply thenK_n)
               | (with_reducible apply blockK_n)
               | ((with_reducible apply EvK.cond_t); (case hc => exact rfl))
               | ((with_reducible apply EvK.cond_f); (case hc => exact rfl))
               | ((with_reducible apply EvO.spd_t); (case hp => first | assumption | omega))
               | (with_reducible apply EvO.nilT)
               | ((with_reducible apply EvO.u0); (case hx => first
                  | ((with_reducible apply OpR.mv); (conv => lhs; whnf); try exact rfl)
                  | ((with_reducible apply OpR.asg); (conv => lhs; whnf); try exact rfl)
                  | ((with_reducible apply OpR.nes); (case hx => exact rfl); (case hy => exact rfl); (case hg => exact span_g); (case ht => exact rfl); (case hr => exact span_same s))
                  | ((with_reducible apply OpR.inc); (case hx => exact rfl); (case hy => exact rfl); (case h => omega))
                  | ((with_reducible apply OpR.ixr); (case he => first | (with_reducible exact el0) | (with_reducible exact el1) | (with_reducible exact el2) | (with_reducible exact el3) | (with_reducible exact el4) | (with_reducible exact el5) | (with_reducible exact el6) | (with_reducible exact el7) | exact rfl); (case hx => exact rfl); (case hi => exact rfl); (case hb => exact rfl); (case hq => first | assumption | omega))
                  | ((with_reducible apply OpR.lds); (case hy => exact rfl); (case ht => first | (with_reducible exact sz0) | (with_reducible exact sz1) | (with_reducible exact sz2) | (with_reducible exact sz3) | (with_reducible exact sz4) | (with_reducible exact sz5) | (with_reducible exact sz6) | (with_reducible exact sz7) | (with_reducible exact sz8) | (with_reducible exact sz9)); (case hb => exact rfl); (case hk => assumption); (case hl => kernel_rfl); (case hv => (repeat' (first | exact LEq.nil | ((with_reducible apply LEq.cons); (case h => (conv => lhs; whnf); try exact rfl)) | (apply LEq.cons; (case h => (conv => lhs; whnf); try exact rfl))))))
                  | exact OpR.r fun _ => rfl))
               | fail)
            refine ⟨k + 1, rfl, rfl, by omega, by omega⟩
          ·
            repeat' (first
               | (with_reducible apply EvK.seq)
               | (with_reducible apply EvK.text)
               | (with_reducible apply EvK.exit)
               | (with_reducible apply thenK_n)
               | (with_reducible apply thenK_e)
               | (with_reducible apply blockK_n)
               | (with_reducible apply blockK_h)
               | ((with_reducible apply EvK.cond_f); (case hc => exact rfl))
               | ((with_reducible apply EvO.spd_f); (case hp => first | assumption | omega))
               | (with_reducible apply EvO.nilT)
               | ((with_reducible apply EvO.u0); (case hx => first
                  | ((with_reducible apply OpR.mv); (conv => lhs; whnf); try exact rfl)
                  | ((with_reducible apply OpR.inc); (case hx => exact rfl); (case hy => exact rfl); (case h => omega))
                  | exact OpR.r fun _ => rfl))
               | fail)
            refine ⟨(q + 1, F), rfl, rfl, ⟨by dsimp only; omega, ?_⟩, by dsimp only; omega⟩
            dsimp only
            rw [hst]
            have := (idxS_none (fun x => contB' x c) (l.take q) 0 (by omega)).1
            rw [← h2] at this
            simp [hcr]; omega
        | true =>
          rw [hcr] at hR hr
          obtain rfl : L = [] := by rw [← hL]; exact (cont_alike hcr).2
          rcases Int.lt_or_le F 0 with h5 | h5
          ·
            repeat' (first
               | (with_reducible apply EvK.seq)
               | (with_reducible apply EvK.block)
               | (with_reducible apply EvK.text)
               | (with_reducible apply EvK.skip)
               | (with_reducible apply thenK_n)
               | ((with_reducible apply EvK.cond_t); (case hc => exact rfl))
               | ((with_reducible apply EvK.cond_f); (case hc => exact rfl))
               | ((with_reducible apply EvO.spd_t); (case hp => first | assumption | omega))
               | ((with_reducible apply EvO.spd_yt); (case hp => first | assumption | omega))
               | ((with_reducible apply EvO.spd_yf); (case hp => first | assumption | omega))
               | ((with_reducible apply EvO.spn_yf); (case hp => first | assumption | omega))
               | (with_reducible apply EvO.nilT)
               | ((with_reducible apply EvO.gt0); (case hW => exact rfl); (case hx => first
                  | ((with_reducible apply OpR.mv); (conv => lhs; whnf); try exact rfl)
                  | ((with_reducible apply OpR.pk_t); (case hc => exact rfl); (case h => (conv => lhs; whnf); try exact rfl))
                  | ((with_reducible apply OpR.len); (case ha => exact rfl); (case hy => exact rfl); (case ht => exact rfl); (case hs => exact rfl); (case hn => first | exact List.length_map _ | exact rfl))
                  | exact OpR.r fun _ => rfl))
               | ((with_reducible apply EvO.u0); (case hx => first
                  | ((with_reducible apply OpR.mv); (conv => lhs; whnf); try exact rfl)
                  | ((with_reducible apply OpR.asg); (conv => lhs; whnf); try exact rfl)
                  | ((with_reducible apply OpR.pk_t); (case hc => exact rfl); (case h => (conv => lhs; whnf); try exact rfl))
                  | ((with_reducible apply OpR.pk_f); (case hc => exact rfl); (case h => (conv => lhs; whnf); try exact rfl))
                  | ((with_reducible apply OpR.callF); (case hcal => exact rfl); (case hav => exact rfl); (case hx => exact rfl); (case hh => exact rfl); (case hm => exact rfl); (case hcl => exact hR); (case hr => exact rfl))
                  | ((with_reducible apply OpR.callX); (case hcal => exact rfl); (case hav => exact rfl); (case hx => exact rfl); (case hh => exact rfl); (case hm => exact rfl); (case hcl => exact hm'); (case hr => exact rfl); (case hd => exact rfl); (case hq => kernel_rfl); (case hn => (first | exact ln0 | exact ln1 | exact ln2 | exact ln3 | exact ln4 | exact ln5 | exact ln6 | exact ln7 | exact ln8 | exact ln9 | exact ln10 | exact ln11 | exact ln12 | exact ln13 | exact ln14)); (case hv => (conv => lhs; whnf); try exact rfl); (case he => (repeat' (first | exact XFr.nil | (with_reducible apply XFr.row) | (with_reducible apply XFr.boxt) | ((apply XFr.box); (case hd => (repeat' (first | exact LEq.nil | ((with_reducible apply LEq.cons); (case h => (conv => lhs; whnf); try exact rfl)) | (apply LEq.cons; (case h => (conv => lhs; whnf); try exact rfl))))))))); (case hf => (repeat' (first | exact LEq.nil | ((with_reducible apply LEq.cons); (case h => (conv => lhs; whnf); try exact rfl)) | (apply LEq.cons; (case h => (conv => lhs; whnf); try exact rfl))))))
                  | ((with_reducible apply OpR.callQ [0]); (case hdr => exact rfl); (case hcal => exact rfl); (case hav => exact rfl); (case hx => exact rfl); (case hh => exact rfl); (case hs0 => kernel_rfl); (case hf => kernel_rfl); (case hg => exact rfl); (case hc => kernel_rfl); (case hm => exact rfl); (case hb => exact rfl); (case hcl => exact hm); (case hk => exact rfl); (case hv => (conv => lhs; whnf); try exact rfl); (case hl => (repeat' (first | exact LEq.nil | ((with_reducible apply LEq.cons); (case h => (conv => lhs; whnf); try exact rfl)) | (apply LEq.cons; (case h => (conv => lhs; whnf); try exact rfl))))); (case hq => exact rfl))
                  | ((with_reducible apply OpR.callQ [0]); (case hdr => exact rfl); (case hcal => exact rfl); (case hav => exact rfl); (case hx => exact rfl); (case hh => exact rfl); (case hs0 => kernel_rfl); (case hf => kernel_rfl); (case hg => exact rfl); (case hc => kernel_rfl); (case hm => exact rfl); (case hb => exact rfl); (case hcl => exact hr); (case hk => exact rfl); (case hv => (conv => lhs; whnf); try exact rfl); (case hl => (repeat' (first | exact LEq.nil | ((with_reducible apply LEq.cons); (case h => (conv => lhs; whnf); try exact rfl)) | (apply LEq.cons; (case h => (conv => lhs; whnf); try exact rfl))))); (case hq => exact rfl))
                  | ((with_reducible apply OpR.len); (case ha => exact rfl); (case hy => exact rfl); (case ht => exact rfl); (case hs => exact rfl); (case hn => first | exact List.length_map _ | exact rfl))
                  | ((with_reducible apply OpR.ix); (case he => first | (with_reducible exact el0) | (with_reducible exact el1) | (with_reducible exact el2) | (with_reducible exact el3) | (with_reducible exact el4) | (with_reducible exact el5) | (with_reducible exact el6) | (with_reducible exact el7) | exact rfl); (case hx => exact rfl); (case hi => exact rfl); (case hc => assumption); (case hz => exact rfl))
                  | exact OpR.r fun _ => rfl))
               | fail)
            apply EvK.loopV
            case ho => exact rfl
            case hp => exact rfl
            case hl => exact rfl
            case hs => repeat' (first | exact Slots.nil | (apply Slots.cons; (case hv => (conv => lhs; whnf); try exact rfl)))
            refine EvL.step ?_
            repeat' (first
               | (with_reducible apply EvK.seq)
               | (with_reducible apply EvK.text)
               | (with_reducible apply EvK.exit)
               | (with_reducible apply thenK_n)
               | (with_reducible apply thenK_e)
               | (with_reducible apply blockK_n)
               | (with_reducible apply blockK_h)
               | ((with_reducible apply EvK.cond_f); (case hc => exact rfl))
               | ((with_reducible apply EvO.spd_f); (case hp => first | assumption | omega))
               | (with_reducible apply EvO.nilT)
               | ((with_reducible apply EvO.u0); (case hx => first
                  | ((with_reducible apply OpR.mv); (conv => lhs; whnf); try exact rfl)
                  | ((with_reducible apply OpR.inc); (case hx => exact rfl); (case hy => exact rfl); (case h => omega))
                  | exact OpR.r fun _ => rfl))
               | fail)
            refine ⟨(q + 1, q), rfl, rfl, ⟨by dsimp only; omega, ?_⟩, by dsimp only; omega⟩
            dsimp only
            rw [hst, if_neg (by omega)]
            simp [hcr]
          ·
            repeat' (first
               | (with_reducible apply EvK.seq)
               | (with_reducible apply EvK.block)
               | (with_reducible apply EvK.text)
               | (with_reducible apply EvK.skip)
               | (with_reducible apply thenK_n)
               | ((with_reducible apply EvK.cond_t); (case hc => exact rfl))
               | ((with_reducible apply EvK.cond_f); (case hc => exact rfl))
               | ((with_reducible apply EvO.spd_t); (case hp => first | assumption | omega))
               | ((with_reducible apply EvO.spd_yf); (case hp => first | assumption | omega))
               | ((with_reducible apply EvO.spn_yf); (case hp => first | assumption | omega))
               | (with_reducible apply EvO.nilT)
               | ((with_reducible apply EvO.gt0); (case hW => exact rfl); (case hx => first
                  | ((with_reducible apply OpR.mv); (conv => lhs; whnf); try exact rfl)
                  | ((with_reducible apply OpR.pk_t); (case hc => exact rfl); (case h => (conv => lhs; whnf); try exact rfl))
                  | ((with_reducible apply OpR.len); (case ha => exact rfl); (case hy => exact rfl); (case ht => exact rfl); (case hs => exact rfl); (case hn => first | exact List.length_map _ | exact rfl))
                  | exact OpR.r fun _ => rfl))
               | ((with_reducible apply EvO.u0); (case hx => first
                  | ((with_reducible apply OpR.mv); (conv => lhs; whnf); try exact rfl)
                  | ((with_reducible apply OpR.asg); (conv => lhs; whnf); try exact rfl)
                  | ((with_reducible apply OpR.pk_t); (case hc => exact rfl); (case h => (conv => lhs; whnf); try exact rfl))
                  | ((with_reducible apply OpR.pk_f); (case hc => exact rfl); (case h => (conv => lhs; whnf); try exact rfl))
                  | ((with_reducible apply OpR.callF); (case hcal => exact rfl); (case hav => exact rfl); (case hx => exact rfl); (case hh => exact rfl); (case hm => exact rfl); (case hcl => exact hR); (case hr => exact rfl))
                  | ((with_reducible apply OpR.callX); (case hcal => exact rfl); (case hav => exact rfl); (case hx => exact rfl); (case hh => exact rfl); (case hm => exact rfl); (case hcl => exact hm'); (case hr => exact rfl); (case hd => exact rfl); (case hq => kernel_rfl); (case hn => (first | exact ln0 | exact ln1 | exact ln2 | exact ln3 | exact ln4 | exact ln5 | exact ln6 | exact ln7 | exact ln8 | exact ln9 | exact ln10 | exact ln11 | exact ln12 | exact ln13 | exact ln14)); (case hv => (conv => lhs; whnf); try exact rfl); (case he => (repeat' (first | exact XFr.nil | (with_reducible apply XFr.row) | (with_reducible apply XFr.boxt) | ((apply XFr.box); (case hd => (repeat' (first | exact LEq.nil | ((with_reducible apply LEq.cons); (case h => (conv => lhs; whnf); try exact rfl)) | (apply LEq.cons; (case h => (conv => lhs; whnf); try exact rfl))))))))); (case hf => (repeat' (first | exact LEq.nil | ((with_reducible apply LEq.cons); (case h => (conv => lhs; whnf); try exact rfl)) | (apply LEq.cons; (case h => (conv => lhs; whnf); try exact rfl))))))
                  | ((with_reducible apply OpR.callQ [0]); (case hdr => exact rfl); (case hcal => exact rfl); (case hav => exact rfl); (case hx => exact rfl); (case hh => exact rfl); (case hs0 => kernel_rfl); (case hf => kernel_rfl); (case hg => exact rfl); (case hc => kernel_rfl); (case hm => exact rfl); (case hb => exact rfl); (case hcl => exact hm); (case hk => exact rfl); (case hv => (conv => lhs; whnf); try exact rfl); (case hl => (repeat' (first | exact LEq.nil | ((with_reducible apply LEq.cons); (case h => (conv => lhs; whnf); try exact rfl)) | (apply LEq.cons; (case h => (conv => lhs; whnf); try exact rfl))))); (case hq => exact rfl))
                  | ((with_reducible apply OpR.callQ [0]); (case hdr => exact rfl); (case hcal => exact rfl); (case hav => exact rfl); (case hx => exact rfl); (case hh => exact rfl); (case hs0 => kernel_rfl); (case hf => kernel_rfl); (case hg => exact rfl); (case hc => kernel_rfl); (case hm => exact rfl); (case hb => exact rfl); (case hcl => exact hr); (case hk => exact rfl); (case hv => (conv => lhs; whnf); try exact rfl); (case hl => (repeat' (first | exact LEq.nil | ((with_reducible apply LEq.cons); (case h => (conv => lhs; whnf); try exact rfl)) | (apply LEq.cons; (case h => (conv => lhs; whnf); try exact rfl))))); (case hq => exact rfl))
                  | ((with_reducible apply OpR.len); (case ha => exact rfl); (case hy => exact rfl); (case ht => exact rfl); (case hs => exact rfl); (case hn => first | exact List.length_map _ | exact rfl))
                  | ((with_reducible apply OpR.ix); (case he => first | (with_reducible exact el0) | (with_reducible exact el1) | (with_reducible exact el2) | (with_reducible exact el3) | (with_reducible exact el4) | (with_reducible exact el5) | (with_reducible exact el6) | (with_reducible exact el7) | exact rfl); (case hx => exact rfl); (case hi => exact rfl); (case hc => assumption); (case hz => exact rfl))
                  | exact OpR.r fun _ => rfl))
               | fail)
            apply EvK.loopV
            case ho => exact rfl
            case hp => exact rfl
            case hl => exact rfl
            case hs => repeat' (first | exact Slots.nil | (apply Slots.cons; (case hv => (conv => lhs; whnf); try exact rfl)))
            refine EvL.step ?_
            repeat' (first
               | (with_reducible apply EvK.seq)
               | (with_reducible apply EvK.text)
               | (with_reducible apply EvK.exit)
               | (with_reducible apply thenK_n)
               | (with_reducible apply thenK_e)
               | (with_reducible apply blockK_n)
               | (with_reducible apply blockK_h)
               | ((with_reducible apply EvK.cond_f); (case hc => exact rfl))
               | ((with_reducible apply EvO.spd_f); (case hp => first | assumption | omega))
               | (with_reducible apply EvO.nilT)
               | ((with_reducible apply EvO.u0); (case hx => first
                  | ((with_reducible apply OpR.mv); (conv => lhs; whnf); try exact rfl)
                  | ((with_reducible apply OpR.inc); (case hx => exact rfl); (case hy => exact rfl); (case h => omega))
                  | exact OpR.r fun _ => rfl))
               | fail)
            refine ⟨(q + 1, F), rfl, rfl, ⟨by dsimp only; omega, ?_⟩, by dsimp only; omega⟩
            dsimp only
            rw [hst, if_pos h5]
    ·
      rw [List.take_of_length_le h3] at h2
      rw [← h2] at hch
      repeat' (first
         | (with_reducible apply EvK.seq)
         | (with_reducible apply EvK.text)
         | (with_reducible apply EvK.exit)
         | (with_reducible apply EvK.ret)
         | (with_reducible apply thenK_n)
         | (with_reducible apply thenK_e)
         | (with_reducible apply blockK_h)
         | ((with_reducible apply EvK.cond_f); (case hc => exact rfl))
         | ((with_reducible apply EvO.spd_t); (case hp => first | assumption | omega))
         | ((with_reducible apply EvO.spd_f); (case hp => first | assumption | omega))
         | (with_reducible apply EvO.nilT)
         | ((with_reducible apply EvO.u0); (case hx => first
            | ((with_reducible apply OpR.mv); (conv => lhs; whnf); try exact rfl)
            | ((with_reducible apply OpR.asg); (conv => lhs; whnf); try exact rfl)
            | ((with_reducible apply OpR.callQ [0]); (case hdr => exact rfl); (case hcal => exact rfl); (case hav => exact rfl); (case hx => exact rfl); (case hh => exact rfl); (case hs0 => kernel_rfl); (case hf => kernel_rfl); (case hg => exact rfl); (case hc => kernel_rfl); (case hm => exact rfl); (case hb => exact rfl); (case hcl => exact hch); (case hk => exact rfl); (case hv => (conv => lhs; whnf); try exact rfl); (case hl => (repeat' (first | exact LEq.nil | ((with_reducible apply LEq.cons); (case h => (conv => lhs; whnf); try exact rfl)) | (apply LEq.cons; (case h => (conv => lhs; whnf); try exact rfl))))); (case hq => exact rfl))
            | exact OpR.r fun _ => rfl))
         | fail)
      exact ⟨.inr rfl, rfl⟩
end Go.Proofs.YtjdhnoffoknlnaaGreatDoor
