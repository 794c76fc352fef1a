/- Law 52: clocks joined, the reference's; sessions' clocks. No condition. -/
import Derived.Test.YtjdhnoffoknlnaaGreatDoorWS
import Derived.Test.YtjdhnoffoknlnaaGreatDoorWG
namespace Go.Proofs.YtjdhnoffoknlnaaGreatDoor
set_option linter.unusedSimpArgs false
set_option linter.unusedVariables false
set_option linter.unusedSectionVars false
open Go.RowKit
set_option maxRecDepth 100000
set_option maxHeartbeats 4000000

theorem ralike_c {l : List (List Int)} (hl : l.length ≤ 140737488351232) (hc : ∀ c ∈ l, c.length ≤ 140737488351232) : Cl cfg 40 [.t (clksA l)] [] (.t (.bool (alikeB l))) [] := by
  refine Cl.of_body rfl Tryz.func40 rfl rfl rfl ?_
  repeat' (first
     | (with_reducible apply EvK.seq)
     | (with_reducible apply EvK.block)
     | (with_reducible apply EvK.text)
     | (with_reducible apply EvO.nilT)
     | ((with_reducible apply EvO.u0); (case hx => ((with_reducible apply OpR.asg); (conv => lhs; whnf); try exact rfl)))
     | fail)
  apply EvK.loopV
  case ho => exact rfl
  case hp => exact rfl
  case hl => exact rfl
  case hs => repeat' (first | exact Slots.nil | (apply Slots.cons; (case hv => (conv => lhs; whnf); try exact rfl)))
  refine EvL.ind (fun q : Nat => [(3, .t (.int .i64 (q : Int)))]) (fun q => q ≤ l.length ∧ (l.take q).all (al1 (l.headD []).length) = true) (fun q => l.length - q) 0 rfl (by simp) (fun q hq => ?_)
  obtain ⟨h1, h2⟩ := hq
  rcases Nat.lt_or_ge q l.length with h3 | h3
  ·
    obtain ⟨c, hn⟩ := get_of_lt h3
    obtain ⟨c0, hn0⟩ := get_of_lt (xs := l) (k := 0) (by omega)
    have hg := clksE_get hn
    have hg0 := clksE_get hn0
    have hlc := hc c (List.mem_of_getElem? hn)
    have hd := al1_head hn0
    repeat' (first
       | (with_reducible apply EvK.seq)
       | (with_reducible apply EvK.block)
       | (with_reducible apply EvK.text)
       | (with_reducible apply EvK.drawn)
       | (with_reducible apply EvK.skip)
       | (with_reducible apply EvK.ret)
       | (with_reducible apply thenK_n)
       | (with_reducible apply thenK_r)
       | (with_reducible apply blockK_n)
       | (with_reducible apply blockK_r)
       | ((with_reducible apply EvK.cond_t); (case hc => exact rfl))
       | ((with_reducible apply EvK.cond_f); (case hc => exact rfl))
       | ((with_reducible apply EvO.spd_t); (case hp => first | assumption | omega))
       | ((with_reducible apply EvO.spb (b := validB _)) <;> intro hq)
       | ((with_reducible apply EvO.spn_y) <;> intro hq)
       | (with_reducible apply EvO.nilT)
       | ((with_reducible apply EvO.gf); (case hW => exact rfl))
       | ((with_reducible apply EvO.gt0); (case hW => exact rfl); (case hx => first
          | ((with_reducible apply OpR.mv); (conv => lhs; whnf); try exact rfl)
          | ((with_reducible apply OpR.len); (case ha => exact rfl); (case hy => exact rfl); (case ht => exact rfl); (case hs => exact rfl); (case hn => first | exact List.length_map _ | exact rfl))
          | ((with_reducible apply OpR.ix); (case he => first | (with_reducible exact el0) | (with_reducible exact el1) | (with_reducible exact el2) | (with_reducible exact el3) | (with_reducible exact el4) | (with_reducible exact el5) | (with_reducible exact el6) | (with_reducible exact el7) | exact rfl); (case hx => exact rfl); (case hi => exact rfl); (case hc => assumption); (case hz => exact rfl))
          | exact OpR.r fun _ => rfl))
       | ((with_reducible apply EvO.u0); (case hx => first
          | ((with_reducible apply OpR.mv); (conv => lhs; whnf); try exact rfl)
          | ((with_reducible apply OpR.asg); (conv => lhs; whnf); try exact rfl)
          | ((with_reducible apply OpR.pk_t); (case hc => exact rfl); (case h => (conv => lhs; whnf); try exact rfl))
          | ((with_reducible apply OpR.pk_f); (case hc => exact rfl); (case h => (conv => lhs; whnf); try exact rfl))
          | ((with_reducible apply OpR.callF); (case hcal => exact rfl); (case hav => exact rfl); (case hx => exact rfl); (case hh => exact rfl); (case hm => exact rfl); (case hcl => exact rvalid_c hlc); (case hr => exact rfl))
          | ((with_reducible apply OpR.inc); (case hx => exact rfl); (case hy => exact rfl); (case h => omega))
          | ((with_reducible apply OpR.len); (case ha => exact rfl); (case hy => exact rfl); (case ht => exact rfl); (case hs => exact rfl); (case hn => first | exact List.length_map _ | exact rfl))
          | ((with_reducible apply OpR.ix); (case he => first | (with_reducible exact el0) | (with_reducible exact el1) | (with_reducible exact el2) | (with_reducible exact el3) | (with_reducible exact el4) | (with_reducible exact el5) | (with_reducible exact el6) | (with_reducible exact el7) | exact rfl); (case hx => exact rfl); (case hi => exact rfl); (case hc => assumption); (case hz => exact rfl))
          | exact OpR.r fun _ => rfl))
       | fail)
    all_goals first
      | (refine fin_b (.inr rfl) rfl ?_)
      | (refine ⟨q + 1, rfl, rfl, ⟨by omega, all_more h2 hn ?_⟩, by omega⟩)
    all_goals first
      | (rw [alikeB, all_bad hn (by rw [al1, hd]; simp [*]; try omega)]; rfl)
      | (rw [al1, hd]; simp [*]; omega)
  ·
    have h4 := all_end h2 h3
    repeat' (first
       | (with_reducible apply EvK.seq)
       | (with_reducible apply EvK.text)
       | (with_reducible apply EvK.exit)
       | (with_reducible apply EvK.ret)
       | (with_reducible apply thenK_n)
       | (with_reducible apply thenK_e)
       | (with_reducible apply blockK_h)
       | ((with_reducible apply EvK.cond_f); (case hc => exact rfl))
       | ((with_reducible apply EvO.spd_f); (case hp => first | assumption | omega))
       | ((with_reducible apply EvO.spd) <;> intro hq)
       | (with_reducible apply EvO.nilT)
       | ((with_reducible apply EvO.u0); (case hx => first
          | ((with_reducible apply OpR.mv); (conv => lhs; whnf); try exact rfl)
          | ((with_reducible apply OpR.asg); (conv => lhs; whnf); try exact rfl)
          | ((with_reducible apply OpR.len); (case ha => exact rfl); (case hy => exact rfl); (case ht => exact rfl); (case hs => exact rfl); (case hn => first | exact List.length_map _ | exact rfl))
          | exact OpR.r fun _ => rfl))
       | fail)
    all_goals (refine fin_b (.inr rfl) rfl ?_; rw [alikeB, h4]; simp; first | done | omega | (rw [← List.length_eq_zero_iff]; omega))
theorem join_c {a b : List Int} (hab : alikeB [a, b] = true) (ha : a.length ≤ 1000) : Cl cfg 36 [.t (clksA [a, b])] [] (.ls 0) [.row false false 1 (intsE (List.zipWith max a b))] := by
  refine Cl.of_body rfl Tryz.func36 rfl rfl rfl ?_
  repeat' (first
     | (with_reducible apply EvK.seq)
     | (with_reducible apply EvK.text)
     | (with_reducible apply EvK.ret)
     | (with_reducible apply EvO.nilT)
     | ((with_reducible apply EvO.u0); (case hx => first
        | ((with_reducible apply OpR.mv); (conv => lhs; whnf); try exact rfl)
        | ((with_reducible apply OpR.asg); (conv => lhs; whnf); try exact rfl)
        | ((with_reducible apply OpR.callX); (case hcal => exact rfl); (case hav => exact rfl); (case hx => exact rfl); (case hh => exact rfl); (case hm => exact rfl); (case hcl => exact sjoin_c hab ha); (case hr => exact rfl); (case hd => exact rfl); (case hq => kernel_rfl); (case hn => (first | exact ln0 | exact ln1 | exact ln2 | exact ln3 | exact ln4 | exact ln5 | exact ln6 | exact ln7 | exact ln8 | exact ln9 | exact ln10 | exact ln11 | exact ln12 | exact ln13 | exact ln14)); (case hv => (conv => lhs; whnf); try exact rfl); (case he => (repeat' (first | exact XFr.nil | (with_reducible apply XFr.row) | (with_reducible apply XFr.boxt) | ((apply XFr.box); (case hd => (repeat' (first | exact LEq.nil | ((with_reducible apply LEq.cons); (case h => (conv => lhs; whnf); try exact rfl)) | (apply LEq.cons; (case h => (conv => lhs; whnf); try exact rfl))))))))); (case hf => (repeat' (first | exact LEq.nil | ((with_reducible apply LEq.cons); (case h => (conv => lhs; whnf); try exact rfl)) | (apply LEq.cons; (case h => (conv => lhs; whnf); try exact rfl))))))))
     | fail)
  exact ⟨.inr rfl, rfl⟩
theorem zip_self (a : List Int) : List.zipWith max a a = a := by
  induction a with
  | nil => rfl
  | cons x a ih => simp [ih]
theorem joinAt_same {a b : List Int} (h : a.length = b.length) {q : Nat} {n m : Int} (hn : a[q]? = some n) (hm : b[q]? = some m) (hnm : ¬ n < m) : joinAt a b (q + 1) = joinAt a b q := by
  rw [← joinAt_set hn hm]
  have e : max n m = n := by omega
  rw [e]
  have := joinAt_get h hn
  obtain ⟨h1, h2⟩ := List.getElem?_eq_some_iff.1 this
  rw [← h2]
  exact List.set_getElem_self h1
theorem rjoin_c {a b : List Int} (hab : alikeB [a, b] = true) (ha : a.length ≤ 1000) : Cl cfg 43 [.t (clksA [a, b])] [] (.ls 0) [.row false false 1 (intsE (List.zipWith max a b))] := by
  have hlen := alike_len hab
  have hal := ralike_c (l := [a, b]) (by simp) (by simp; omega)
  rw [hab] at hal
  have hg0 : (clksE [a, b])[0]? = some [intsA a] := rfl
  have hg1 : (clksE [a, b])[1]? = some [intsA b] := rfl
  have hb1 : [a, b].length = 2 := rfl
  refine Cl.of_body rfl Tryz.func43 rfl rfl rfl ?_
  repeat' (first
     | (with_reducible apply EvK.seq)
     | (with_reducible apply EvK.block)
     | (with_reducible apply EvK.text)
     | (with_reducible apply EvK.skip)
     | (with_reducible apply thenK_n)
     | ((with_reducible apply EvK.cond_f); (case hc => exact rfl))
     | (with_reducible apply EvO.nilT)
     | ((with_reducible apply EvO.u); (case hx => ((with_reducible apply OpR.apr); (case hs => exact fun _ => rfl); (case ha => exact rfl); (case ht => exact rfl); (case hr => first | (with_reducible exact rw0) | (with_reducible exact rw1) | (with_reducible exact rw2) | (with_reducible exact rw3) | (with_reducible exact rw4) | exact rfl); (case hx => exact rfl); (case hy => exact rfl); (case hn => exact rfl); (case hb => exact rfl); (case hok => exact newsI a); (case hlen => exact lenI (by rw [List.length_nil, intsE_len]; omega)); (case hv => exact List.nil_append _); (case hk => (repeat' (first | exact KFr.nil | (with_reducible apply KFr.row) | (with_reducible apply KFr.boxt) | ((apply KFr.box); (case hd => (repeat' (first | exact LEq.nil | ((with_reducible apply LEq.cons); (case h => (conv => lhs; whnf); try exact rfl)) | (apply LEq.cons; (case h => (conv => lhs; whnf); try exact rfl))))))))); (case hf => (repeat' (first | exact LEq.nil | ((with_reducible apply LEq.cons); (case h => (conv => lhs; whnf); try exact rfl)) | (apply LEq.cons; (case h => (conv => lhs; whnf); try exact rfl))))))))
     | ((with_reducible apply EvO.u0); (case hx => first
        | ((with_reducible apply OpR.mv); (conv => lhs; whnf); try exact rfl)
        | ((with_reducible apply OpR.asg); (conv => lhs; whnf); try exact rfl)
        | ((with_reducible apply OpR.callF); (case hcal => exact rfl); (case hav => exact rfl); (case hx => exact rfl); (case hh => exact rfl); (case hm => exact rfl); (case hcl => exact hal); (case hr => exact rfl))
        | ((with_reducible apply OpR.ix); (case he => first | (with_reducible exact el0) | (with_reducible exact el1) | (with_reducible exact el2) | (with_reducible exact el3) | (with_reducible exact el4) | (with_reducible exact el5) | (with_reducible exact el6) | (with_reducible exact el7) | exact rfl); (case hx => exact rfl); (case hi => exact rfl); (case hc => assumption); (case hz => exact rfl))
        | ((with_reducible apply OpR.bs0); (case hs => exact fun _ => rfl); (case hr => first | (with_reducible exact rw0) | (with_reducible exact rw1) | (with_reducible exact rw2) | (with_reducible exact rw3) | (with_reducible exact rw4) | exact rfl); (case hn => (first | exact ln0 | exact ln1 | exact ln2 | exact ln3 | exact ln4 | exact ln5 | exact ln6 | exact ln7 | exact ln8 | exact ln9 | exact ln10 | exact ln11 | exact ln12 | exact ln13 | exact ln14)); (case hf => (repeat' (first | exact LEq.nil | ((with_reducible apply LEq.cons); (case h => (conv => lhs; whnf); try exact rfl)) | (apply LEq.cons; (case h => (conv => lhs; whnf); try exact rfl))))))
        | exact OpR.r fun _ => rfl))
     | fail)
  apply EvK.loopV
  case ho => exact rfl
  case hp => exact rfl
  case hl => exact rfl
  case hs => repeat' (first | exact Slots.nil | (apply Slots.cons; (case hv => (conv => lhs; whnf); try exact rfl)))
  refine EvL.indF (fun s : Nat × List Int => [(4, .t (.int .i64 (s.1 : Int)))]) (fun s => [.row false true 1 (intsE s.2)]) (fun s => s.1 ≤ 2 ∧ s.2 = (if s.1 ≤ 1 then a else List.zipWith max a b)) (fun s => 2 - s.1) (0, a) rfl rfl ⟨by simp, rfl⟩ (fun s hs => ?_)
  obtain ⟨i, xs⟩ := s
  obtain ⟨h1, h2⟩ := hs
  simp only at h1 h2
  rcases Nat.lt_or_ge i 2 with h3 | h3
  ·
    obtain ⟨c, hc, ⟨hcx, hcl⟩, hnext⟩ : ∃ c, (clksE [a, b])[i]? = some [intsA c] ∧ (xs.length = c.length ∧ c.length ≤ 1000) ∧ (i + 1 ≤ 2 ∧ List.zipWith max xs c = (if i + 1 ≤ 1 then a else List.zipWith max a b)) := by
      rw [if_pos (by omega)] at h2
      subst h2
      rcases Nat.lt_or_ge i 1 with h4 | h4
      · obtain rfl : i = 0 := by omega
        exact ⟨xs, rfl, ⟨rfl, ha⟩, by omega, by rw [zip_self]; rfl⟩
      · obtain rfl : i = 1 := by omega
        exact ⟨b, rfl, ⟨hlen, by omega⟩, by omega, rfl⟩
    clear h2
    dsimp only
    repeat' (first
       | (with_reducible apply EvK.seq)
       | (with_reducible apply EvK.block)
       | (with_reducible apply EvK.text)
       | (with_reducible apply EvK.skip)
       | (with_reducible apply thenK_n)
       | ((with_reducible apply EvK.cond_t); (case hc => exact rfl))
       | ((with_reducible apply EvO.spd_t); (case hp => first | assumption | omega))
       | (with_reducible apply EvO.nilT)
       | ((with_reducible apply EvO.u0); (case hx => first
          | ((with_reducible apply OpR.mv); (conv => lhs; whnf); try exact rfl)
          | ((with_reducible apply OpR.asg); (conv => lhs; whnf); try exact rfl)
          | ((with_reducible apply OpR.len); (case ha => exact rfl); (case hy => exact rfl); (case ht => exact rfl); (case hs => exact rfl); (case hn => first | exact List.length_map _ | exact rfl))
          | exact OpR.r fun _ => rfl))
       | fail)
    apply EvK.loopV
    case ho => exact rfl
    case hp => exact rfl
    case hl => exact rfl
    case hs => repeat' (first | exact Slots.nil | (apply Slots.cons; (case hv => (conv => lhs; whnf); try exact rfl)))
    refine EvL.indF (fun q : Nat => [(5, .t (.int .i64 (q : Int)))]) (fun q => [.row false true 1 (intsE (joinAt xs c q))]) (fun q => q ≤ c.length) (fun q => c.length - q) 0 rfl (by rw [joinAt_0]) (by omega) (fun q hq => ?_)
    have hjl := joinAt_len hcx q
    rcases Nat.lt_or_ge q c.length with h5 | h5
    ·
      obtain ⟨n, hn⟩ := get_of_lt (xs := xs) (k := q) (by omega)
      obtain ⟨m, hm⟩ := get_of_lt h5
      have hd := intsE_get hm
      have hk := intsE_get (joinAt_get hcx hn)
      have hl := lt_of_get hk
      have hs : n < m → (intsE (joinAt xs c q)).set q [.int .i64 m] = intsE (joinAt xs c (q + 1)) := fun h => by
        have e : max n m = m := by omega
        rw [intsE_set, ← joinAt_set hn hm, e]
      have hsame := joinAt_same hcx hn hm
      repeat' (first
         | (with_reducible apply EvK.seq)
         | (with_reducible apply EvK.block)
         | (with_reducible apply EvK.text)
         | (with_reducible apply EvK.drawn)
         | (with_reducible apply EvK.skip)
         | (with_reducible apply thenK_n)
         | (with_reducible apply blockK_n)
         | ((with_reducible apply EvK.cond_t); (case hc => exact rfl))
         | ((with_reducible apply EvK.cond_f); (case hc => exact rfl))
         | ((with_reducible apply EvO.spd_t); (case hp => first | assumption | omega))
         | ((with_reducible apply EvO.spd) <;> intro hq)
         | (with_reducible apply EvO.nilT)
         | (with_reducible apply EvO.nilB)
         | ((with_reducible apply EvO.u0); (case hx => first
            | ((with_reducible apply OpR.mv); (conv => lhs; whnf); try exact rfl)
            | ((with_reducible apply OpR.asg); (conv => lhs; whnf); try exact rfl)
            | ((with_reducible apply OpR.sti); (case hs => exact fun _ => rfl); (case ha => exact rfl); (case hy => exact rfl); (case ht => exact rfl); (case hone => exact rfl); (case hn => kernel_rfl); (case hb => exact rfl); (case hk => exact hk); (case hj => exact rfl); (case hv => exact hs (by omega)); (case hf => (repeat' (first | exact LEq.nil | ((with_reducible apply LEq.cons); (case h => (conv => lhs; whnf); try exact rfl)) | (apply LEq.cons; (case h => (conv => lhs; whnf); try exact rfl))))))
            | ((with_reducible apply OpR.inc); (case hx => exact rfl); (case hy => exact rfl); (case h => omega))
            | ((with_reducible apply OpR.len); (case ha => exact rfl); (case hy => exact rfl); (case ht => exact rfl); (case hs => exact rfl); (case hn => first | exact List.length_map _ | exact rfl))
            | ((with_reducible apply OpR.ix); (case he => first | (with_reducible exact el0) | (with_reducible exact el1) | (with_reducible exact el2) | (with_reducible exact el3) | (with_reducible exact el4) | (with_reducible exact el5) | (with_reducible exact el6) | (with_reducible exact el7) | exact rfl); (case hx => exact rfl); (case hi => exact rfl); (case hc => assumption); (case hz => exact rfl))
            | ((with_reducible apply OpR.ixr); (case he => first | (with_reducible exact el0) | (with_reducible exact el1) | (with_reducible exact el2) | (with_reducible exact el3) | (with_reducible exact el4) | (with_reducible exact el5) | (with_reducible exact el6) | (with_reducible exact el7) | exact rfl); (case hx => exact rfl); (case hi => exact rfl); (case hb => exact rfl); (case hq => first | assumption | omega))
            | ((with_reducible apply OpR.ldi); (case hy => exact rfl); (case ht => exact rfl); (case hb => exact rfl); (case hk => assumption))
            | exact OpR.r fun _ => rfl))
         | fail)
      · refine ⟨q + 1, rfl, rfl, by omega, by omega⟩
      · refine ⟨q + 1, rfl, ?_, by omega, by omega⟩
        rw [hsame (by omega)]
        rfl
    ·
      have hj := joinAt_end hcx (q := q) (by omega)
      repeat' (first
         | (with_reducible apply EvK.seq)
         | (with_reducible apply EvK.text)
         | (with_reducible apply EvK.exit)
         | (with_reducible apply thenK_n)
         | (with_reducible apply thenK_e)
         | (with_reducible apply blockK_n)
         | (with_reducible apply blockK_h)
         | ((with_reducible apply EvK.cond_f); (case hc => exact rfl))
         | ((with_reducible apply EvO.spd_f); (case hp => first | assumption | omega))
         | (with_reducible apply EvO.nilT)
         | ((with_reducible apply EvO.u0); (case hx => first
            | ((with_reducible apply OpR.mv); (conv => lhs; whnf); try exact rfl)
            | ((with_reducible apply OpR.asg); (conv => lhs; whnf); try exact rfl)
            | ((with_reducible apply OpR.inc); (case hx => exact rfl); (case hy => exact rfl); (case h => omega))
            | ((with_reducible apply OpR.len); (case ha => exact rfl); (case hy => exact rfl); (case ht => exact rfl); (case hs => exact rfl); (case hn => first | exact List.length_map _ | exact rfl))
            | exact OpR.r fun _ => rfl))
         | fail)
      refine ⟨(i + 1, joinAt xs c q), rfl, rfl, ⟨by dsimp only; omega, by dsimp only; rw [hj]; exact hnext.2⟩, by dsimp only; omega⟩
  ·
    obtain rfl : i = 2 := by omega
    rw [if_neg (by omega)] at h2
    dsimp only
    repeat' (first
       | (with_reducible apply EvK.seq)
       | (with_reducible apply EvK.text)
       | (with_reducible apply EvK.exit)
       | (with_reducible apply EvK.ret)
       | (with_reducible apply thenK_n)
       | (with_reducible apply thenK_e)
       | (with_reducible apply blockK_h)
       | ((with_reducible apply EvK.cond_f); (case hc => exact rfl))
       | ((with_reducible apply EvO.spd_f); (case hp => first | assumption | omega))
       | (with_reducible apply EvO.nilT)
       | ((with_reducible apply EvO.u0); (case hx => first
          | ((with_reducible apply OpR.mv); (conv => lhs; whnf); try exact rfl)
          | ((with_reducible apply OpR.asg); (conv => lhs; whnf); try exact rfl)
          | ((with_reducible apply OpR.len); (case ha => exact rfl); (case hy => exact rfl); (case ht => exact rfl); (case hs => exact rfl); (case hn => first | exact List.length_map _ | exact rfl))
          | exact OpR.r fun _ => rfl))
       | fail)
    exact ⟨.inr rfl, by rw [h2]; rfl⟩
def eqInts (a b : List Int) : Bool := a == b
theorem rints_c {a b : List Int} (ha : a.length ≤ 140737488351232) (hb : b.length ≤ 140737488351232) : Cl cfg 18 [.t (intsA a), .t (intsA b)] [] (.t (.bool (a == b))) [] := by
  refine Cl.of_body rfl Tryz.func18 rfl rfl rfl ?_
  by_cases hlen : a.length = b.length
  ·
    repeat' (first
       | (with_reducible apply EvK.seq)
       | (with_reducible apply EvK.block)
       | (with_reducible apply EvK.text)
       | (with_reducible apply EvK.skip)
       | (with_reducible apply thenK_n)
       | ((with_reducible apply EvK.cond_f); (case hc => exact rfl))
       | ((with_reducible apply EvO.spn_f); (case hp => first | assumption | omega))
       | (with_reducible apply EvO.nilT)
       | ((with_reducible apply EvO.u0); (case hx => first
          | ((with_reducible apply OpR.mv); (conv => lhs; whnf); try exact rfl)
          | ((with_reducible apply OpR.asg); (conv => lhs; whnf); try exact rfl)
          | ((with_reducible apply OpR.len); (case ha => exact rfl); (case hy => exact rfl); (case ht => exact rfl); (case hs => exact rfl); (case hn => first | exact List.length_map _ | exact rfl))
          | exact OpR.r fun _ => rfl))
       | fail)
    apply EvK.loopV
    case ho => exact rfl
    case hp => exact rfl
    case hl => exact rfl
    case hs => repeat' (first | exact Slots.nil | (apply Slots.cons; (case hv => (conv => lhs; whnf); try exact rfl)))
    refine EvL.ind (fun q : Nat => [(5, .t (.int .i64 (q : Int)))]) (fun q => q ≤ a.length ∧ a.take q = b.take q) (fun q => a.length - q) 0 rfl (by simp) (fun q hq => ?_)
    obtain ⟨h1, h2⟩ := hq
    rcases Nat.lt_or_ge q a.length with h3 | h3
    ·
      obtain ⟨n, hn⟩ := get_of_lt h3
      obtain ⟨m, hm'⟩ := get_of_lt (xs := b) (k := q) (by omega)
      have hc := intsE_get hn
      have hd := intsE_get hm'
      repeat' (first
         | (with_reducible apply EvK.seq)
         | (with_reducible apply EvK.block)
         | (with_reducible apply EvK.text)
         | (with_reducible apply EvK.drawn)
         | (with_reducible apply EvK.skip)
         | (with_reducible apply EvK.ret)
         | (with_reducible apply thenK_n)
         | (with_reducible apply thenK_r)
         | (with_reducible apply blockK_n)
         | (with_reducible apply blockK_r)
         | ((with_reducible apply EvK.cond_t); (case hc => exact rfl))
         | ((with_reducible apply EvK.cond_f); (case hc => exact rfl))
         | ((with_reducible apply EvO.spd_t); (case hp => first | assumption | omega))
         | ((with_reducible apply EvO.spn) <;> intro hq)
         | (with_reducible apply EvO.nilT)
         | ((with_reducible apply EvO.u0); (case hx => first
            | ((with_reducible apply OpR.mv); (conv => lhs; whnf); try exact rfl)
            | ((with_reducible apply OpR.asg); (conv => lhs; whnf); try exact rfl)
            | ((with_reducible apply OpR.inc); (case hx => exact rfl); (case hy => exact rfl); (case h => omega))
            | ((with_reducible apply OpR.len); (case ha => exact rfl); (case hy => exact rfl); (case ht => exact rfl); (case hs => exact rfl); (case hn => first | exact List.length_map _ | exact rfl))
            | ((with_reducible apply OpR.ix); (case he => first | (with_reducible exact el0) | (with_reducible exact el1) | (with_reducible exact el2) | (with_reducible exact el3) | (with_reducible exact el4) | (with_reducible exact el5) | (with_reducible exact el6) | (with_reducible exact el7) | exact rfl); (case hx => exact rfl); (case hi => exact rfl); (case hc => assumption); (case hz => exact rfl))
            | exact OpR.r fun _ => rfl))
         | fail)
      all_goals first
        | (refine fin_b (.inr rfl) rfl ?_)
        | (refine ⟨q + 1, rfl, rfl, ⟨by omega, ?_⟩, by omega⟩)
      all_goals first
        | (rw [List.take_add_one, List.take_add_one, h2, hn, hm']; simp_all; done)
        | (symm; rw [beq_eq_false_iff_ne]; rintro rfl; rw [hn] at hm'; cases hm'; omega)
    ·
      rw [List.take_of_length_le h3, List.take_of_length_le (by omega)] at h2
      repeat' (first
         | (with_reducible apply EvK.seq)
         | (with_reducible apply EvK.text)
         | (with_reducible apply EvK.exit)
         | (with_reducible apply EvK.ret)
         | (with_reducible apply thenK_n)
         | (with_reducible apply thenK_e)
         | (with_reducible apply blockK_h)
         | ((with_reducible apply EvK.cond_f); (case hc => exact rfl))
         | ((with_reducible apply EvO.spd_f); (case hp => first | assumption | omega))
         | (with_reducible apply EvO.nilT)
         | ((with_reducible apply EvO.u0); (case hx => first
            | ((with_reducible apply OpR.mv); (conv => lhs; whnf); try exact rfl)
            | ((with_reducible apply OpR.asg); (conv => lhs; whnf); try exact rfl)
            | ((with_reducible apply OpR.len); (case ha => exact rfl); (case hy => exact rfl); (case ht => exact rfl); (case hs => exact rfl); (case hn => first | exact List.length_map _ | exact rfl))
            | exact OpR.r fun _ => rfl))
         | fail)
      all_goals (refine fin_b (.inr rfl) rfl ?_; rw [h2]; simp)
  ·
    repeat' (first
       | (with_reducible apply EvK.seq)
       | (with_reducible apply EvK.text)
       | (with_reducible apply EvK.ret)
       | (with_reducible apply thenK_r)
       | ((with_reducible apply EvK.cond_t); (case hc => exact rfl))
       | ((with_reducible apply EvO.spn_t); (case hp => first | assumption | omega))
       | (with_reducible apply EvO.nilT)
       | ((with_reducible apply EvO.u0); (case hx => first
          | ((with_reducible apply OpR.mv); (conv => lhs; whnf); try exact rfl)
          | ((with_reducible apply OpR.asg); (conv => lhs; whnf); try exact rfl)
          | ((with_reducible apply OpR.len); (case ha => exact rfl); (case hy => exact rfl); (case ht => exact rfl); (case hs => exact rfl); (case hn => first | exact List.length_map _ | exact rfl))
          | exact OpR.r fun _ => rfl))
       | fail)
    all_goals (refine fin_b (.inr rfl) rfl ?_; symm; rw [beq_eq_false_iff_ne]; rintro rfl; exact hlen rfl)
end Go.Proofs.YtjdhnoffoknlnaaGreatDoor
