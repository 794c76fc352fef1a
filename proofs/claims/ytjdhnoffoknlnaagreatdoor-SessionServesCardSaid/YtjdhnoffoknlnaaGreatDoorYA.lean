/- Law 52: what one clock lacks of another one; what a session lacks. No condition. -/
import Derived.Test.YtjdhnoffoknlnaaGreatDoorXB
namespace Go.Proofs.YtjdhnoffoknlnaaGreatDoor
set_option linter.unusedSimpArgs false
set_option linter.unusedVariables false
set_option linter.unusedSectionVars false
open Go.RowKit
set_option maxRecDepth 100000
set_option maxHeartbeats 8000000

theorem sz5 : sizeT cfg.P 53 = some (true, 3) := by kernel_rfl
def spCs (s : Sp) : List AV := [.int .i64 s.r, .int .i64 s.f, .int .i64 s.t]
def spsE (l : List Sp) : List (List AV) := l.map spCs
theorem spsE_get {l : List Sp} {k : Nat} {s : Sp} (h : l[k]? = some s) : (spsE l)[k]? = some (spCs s) := by simp [spsE, h]
theorem spsE_len (l : List Sp) : (spsE l).length = l.length := by simp [spsE]
theorem lenSp24 {n : Nat} (h : n ≤ 1000) : lenOk n 24 = true := by simp [lenOk]; omega
theorem missL_len (a b : List Int) : ∀ k, (missL a b k).length ≤ k
  | 0 => Nat.le_refl _
  | k + 1 => by
    have := missL_len a b k
    rw [missL, List.length_append]
    split <;> simp <;> omega
theorem miss_lt' {a b : List Int} {q : Nat} {n m : Int} (hn : a[q]? = some n) (hm : b[q]? = some m) (h : n < m) : spsE (missL a b q) ++ [[.int .i64 (q : Int), .int .i64 (n + 1), .int .i64 m]] = spsE (missL a b (q + 1)) := by
  rw [missL, getD_get hn, getD_get hm, if_pos h, spsE, spsE, List.map_append]; rfl
theorem miss_ge' {a b : List Int} {q : Nat} {n m : Int} (hn : a[q]? = some n) (hm : b[q]? = some m) (h : ¬ n < m) : missL a b (q + 1) = missL a b q := by
  rw [missL, getD_get hn, getD_get hm, if_neg h, List.append_nil]
theorem alike_two {a b : List Int} (h : alikeB [a, b] = true) : validB a = true ∧ validB b = true ∧ a.length = b.length := by
  simp [alikeB, al1] at h
  exact ⟨h.1, h.2.1, h.2.2.symm⟩
theorem missing_c {a b : List Int} (hab : alikeB [a, b] = true) : Cl cfg 39 [.t (intsA a), .t (intsA b)] [] (.ls 0) [.row false false 3 (spsE (missL a b a.length))] := by
  obtain ⟨hva, hvb, hlen⟩ := alike_two hab
  have h5 : 1 ≤ a.length ∧ a.length ≤ 5 := by simp [validB] at hva; omega
  have hal := alike_c (l := [a, b]) (by simp) (by simp; omega)
  rw [hab] at hal
  refine Cl.of_body rfl Tryz.func39 rfl rfl rfl ?_
  repeat' (first
     | (with_reducible apply EvK.seq)
     | (with_reducible apply EvK.block)
     | (with_reducible apply EvK.text)
     | (with_reducible apply EvK.skip)
     | (with_reducible apply thenK_n)
     | ((with_reducible apply EvK.cond_f); (case hc => exact rfl))
     | (with_reducible apply EvO.nilT)
     | ((with_reducible apply EvO.u0); (case hx => first
        | ((with_reducible apply OpR.mv); (conv => lhs; whnf); try exact rfl)
        | ((with_reducible apply OpR.asg); (conv => lhs; whnf); try exact rfl)
        | ((with_reducible apply OpR.callF); (case hcal => exact rfl); (case hav => exact rfl); (case hx => exact rfl); (case hh => exact rfl); (case hm => exact rfl); (case hcl => exact hal); (case hr => exact rfl))
        | ((with_reducible apply OpR.len); (case ha => exact rfl); (case hy => exact rfl); (case ht => exact rfl); (case hs => exact rfl); (case hn => first | exact List.length_map _ | exact rfl))
        | exact OpR.r fun _ => rfl))
     | fail)
  apply EvK.loopV
  case ho => exact rfl
  case hp => exact rfl
  case hl => exact rfl
  case hs => repeat' (first | exact Slots.nil | (apply Slots.cons; (case hv => (conv => lhs; whnf); try exact rfl)))
  refine EvL.indF (fun s : Nat × Bool => [(5, .ls 0), (14, .t (.int .i64 (s.1 : Int)))]) (fun s => [.row false s.2 3 (spsE (missL a b s.1))]) (fun s => s.1 ≤ a.length) (fun s => a.length - s.1) (0, false) rfl rfl (by simp) (fun s hs => ?_)
  obtain ⟨q, tch⟩ := s
  simp only at hs
  dsimp only
  rcases Nat.lt_or_ge q a.length with h3 | h3
  ·
    obtain ⟨n, hn⟩ := get_of_lt h3
    obtain ⟨m, hm⟩ := get_of_lt (xs := b) (k := q) (by omega)
    have hc := intsE_get hn
    have hd := intsE_get hm
    have hn1 := ok1_at hva hn
    have hm1 := ok1_at hvb hm
    have hl := missL_len a b q
    by_cases hnm : n < m
    ·
      have hv := miss_lt' hn hm hnm
      repeat' (first
         | (with_reducible apply EvK.seq)
         | (with_reducible apply EvK.block)
         | (with_reducible apply EvK.text)
         | (with_reducible apply EvK.drawn)
         | (with_reducible apply EvK.skip)
         | (with_reducible apply thenK_n)
         | ((with_reducible apply EvK.cond_t); (case hc => exact rfl))
         | ((with_reducible apply EvO.spd_t); (case hp => first | assumption | omega))
         | (with_reducible apply EvO.nilT)
         | (with_reducible apply EvO.nilB)
         | ((with_reducible apply EvO.u); (case hx => ((with_reducible apply OpR.apr); (case hs => exact fun _ => rfl); (case ha => exact rfl); (case ht => exact rfl); (case hr => first | (with_reducible exact rw0) | (with_reducible exact rw1) | (with_reducible exact rw2) | (with_reducible exact rw3) | (with_reducible exact rw4) | exact rfl); (case hx => exact rfl); (case hy => exact rfl); (case hn => exact rfl); (case hb => exact rfl); (case hok => exact rfl); (case hlen => exact lenSp24 (by rw [spsE_len]; simp; omega)); (case hv => exact hv); (case hk => (repeat' (first | exact KFr.nil | (with_reducible apply KFr.row) | (with_reducible apply KFr.boxt) | ((apply KFr.box); (case hd => (repeat' (first | exact LEq.nil | ((with_reducible apply LEq.cons); (case h => (conv => lhs; whnf); try exact rfl)) | (apply LEq.cons; (case h => (conv => lhs; whnf); try exact rfl))))))))); (case hf => (repeat' (first | exact LEq.nil | ((with_reducible apply LEq.cons); (case h => (conv => lhs; whnf); try exact rfl)) | (apply LEq.cons; (case h => (conv => lhs; whnf); try exact rfl))))))))
         | ((with_reducible apply EvO.u0); (case hx => first
            | ((with_reducible apply OpR.mv); (conv => lhs; whnf); try exact rfl)
            | ((with_reducible apply OpR.asg); (conv => lhs; whnf); try exact rfl)
            | ((with_reducible apply OpR.inc); (case hx => exact rfl); (case hy => exact rfl); (case h => omega))
            | ((with_reducible apply OpR.add); (case hx => exact rfl); (case hy => exact rfl); (case h => omega))
            | ((with_reducible apply OpR.ix); (case he => first | (with_reducible exact el0) | (with_reducible exact el1) | (with_reducible exact el2) | (with_reducible exact el3) | (with_reducible exact el4) | (with_reducible exact el5) | (with_reducible exact el6) | (with_reducible exact el7) | exact rfl); (case hx => exact rfl); (case hi => exact rfl); (case hc => assumption); (case hz => exact rfl))
            | exact OpR.r fun _ => rfl))
         | fail)
      refine ⟨(q + 1, true), rfl, rfl, by dsimp only; omega, by dsimp only; omega⟩
    ·
      have hv := miss_ge' hn hm hnm
      repeat' (first
         | (with_reducible apply EvK.seq)
         | (with_reducible apply EvK.block)
         | (with_reducible apply EvK.text)
         | (with_reducible apply EvK.drawn)
         | (with_reducible apply EvK.skip)
         | (with_reducible apply thenK_n)
         | (with_reducible apply blockK_n)
         | ((with_reducible apply EvK.cond_t); (case hc => exact rfl))
         | ((with_reducible apply EvK.cond_f); (case hc => exact rfl))
         | ((with_reducible apply EvO.spd_t); (case hp => first | assumption | omega))
         | ((with_reducible apply EvO.spd_f); (case hp => first | assumption | omega))
         | (with_reducible apply EvO.nilT)
         | ((with_reducible apply EvO.u0); (case hx => first
            | ((with_reducible apply OpR.mv); (conv => lhs; whnf); try exact rfl)
            | ((with_reducible apply OpR.asg); (conv => lhs; whnf); try exact rfl)
            | ((with_reducible apply OpR.inc); (case hx => exact rfl); (case hy => exact rfl); (case h => omega))
            | ((with_reducible apply OpR.ix); (case he => first | (with_reducible exact el0) | (with_reducible exact el1) | (with_reducible exact el2) | (with_reducible exact el3) | (with_reducible exact el4) | (with_reducible exact el5) | (with_reducible exact el6) | (with_reducible exact el7) | exact rfl); (case hx => exact rfl); (case hi => exact rfl); (case hc => assumption); (case hz => exact rfl))
            | exact OpR.r fun _ => rfl))
         | fail)
      refine ⟨(q + 1, tch), rfl, ?_, by dsimp only; omega, by dsimp only; omega⟩
      rw [hv]; rfl
  ·
    obtain rfl : q = a.length := by omega
    repeat' (first
       | (with_reducible apply EvK.seq)
       | (with_reducible apply EvK.text)
       | (with_reducible apply EvK.exit)
       | (with_reducible apply EvK.ret)
       | (with_reducible apply thenK_n)
       | (with_reducible apply thenK_e)
       | (with_reducible apply blockK_h)
       | ((with_reducible apply EvK.cond_f); (case hc => exact rfl))
       | ((with_reducible apply EvO.spd_f); (case hp => first | assumption | omega))
       | (with_reducible apply EvO.nilT)
       | ((with_reducible apply EvO.u0); (case hx => first
          | ((with_reducible apply OpR.mv); (conv => lhs; whnf); try exact rfl)
          | ((with_reducible apply OpR.asg); (conv => lhs; whnf); try exact rfl)
          | exact OpR.r fun _ => rfl))
       | fail)
    exact ⟨.inr rfl, rfl⟩
theorem missing_n {a b : List Int} (hab : alikeB [a, b] = false) (ha : a.length ≤ 140737488351232) (hb : b.length ≤ 140737488351232) : Cl cfg 39 [.t (intsA a), .t (intsA b)] [] .nil [] := by
  have hal := alike_c (l := [a, b]) (by simp) (by simp; omega)
  rw [hab] at hal
  refine Cl.of_body rfl Tryz.func39 rfl rfl rfl ?_
  repeat' (first
     | (with_reducible apply EvK.seq)
     | (with_reducible apply EvK.text)
     | (with_reducible apply EvK.ret)
     | (with_reducible apply thenK_r)
     | ((with_reducible apply EvK.cond_t); (case hc => exact rfl))
     | (with_reducible apply EvO.nilT)
     | ((with_reducible apply EvO.u0); (case hx => first
        | ((with_reducible apply OpR.mv); (conv => lhs; whnf); try exact rfl)
        | ((with_reducible apply OpR.asg); (conv => lhs; whnf); try exact rfl)
        | ((with_reducible apply OpR.callF); (case hcal => exact rfl); (case hav => exact rfl); (case hx => exact rfl); (case hh => exact rfl); (case hm => exact rfl); (case hcl => exact hal); (case hr => exact rfl))
        | exact OpR.r fun _ => rfl))
     | fail)
  exact ⟨.inr rfl, rfl⟩
theorem rmissing_c {a b : List Int} (hab : alikeB [a, b] = true) : Cl cfg 22 [.t (intsA a), .t (intsA b)] [] (.ls 0) [.row false false 3 (spsE (missL a b a.length))] := by
  obtain ⟨hva, hvb, hlen⟩ := alike_two hab
  have h5 : 1 ≤ a.length ∧ a.length ≤ 5 := by simp [validB] at hva; omega
  have hal := ralike_c (l := [a, b]) (by simp) (by simp; omega)
  rw [hab] at hal
  refine Cl.of_body rfl Tryz.func22 rfl rfl rfl ?_
  repeat' (first
     | (with_reducible apply EvK.seq)
     | (with_reducible apply EvK.block)
     | (with_reducible apply EvK.text)
     | (with_reducible apply EvK.skip)
     | (with_reducible apply thenK_n)
     | ((with_reducible apply EvK.cond_f); (case hc => exact rfl))
     | (with_reducible apply EvO.nilT)
     | ((with_reducible apply EvO.u0); (case hx => first
        | ((with_reducible apply OpR.mv); (conv => lhs; whnf); try exact rfl)
        | ((with_reducible apply OpR.asg); (conv => lhs; whnf); try exact rfl)
        | ((with_reducible apply OpR.callF); (case hcal => exact rfl); (case hav => exact rfl); (case hx => exact rfl); (case hh => exact rfl); (case hm => exact rfl); (case hcl => exact hal); (case hr => exact rfl))
        | ((with_reducible apply OpR.bs0); (case hs => exact fun _ => rfl); (case hr => first | (with_reducible exact rw0) | (with_reducible exact rw1) | (with_reducible exact rw2) | (with_reducible exact rw3) | (with_reducible exact rw4) | exact rfl); (case hn => (first | exact ln0 | exact ln1 | exact ln2 | exact ln3 | exact ln4 | exact ln5 | exact ln6 | exact ln7 | exact ln8 | exact ln9 | exact ln10 | exact ln11 | exact ln12 | exact ln13 | exact ln14)); (case hf => (repeat' (first | exact LEq.nil | ((with_reducible apply LEq.cons); (case h => (conv => lhs; whnf); try exact rfl)) | (apply LEq.cons; (case h => (conv => lhs; whnf); try exact rfl))))))
        | exact OpR.r fun _ => rfl))
     | fail)
  apply EvK.loopV
  case ho => exact rfl
  case hp => exact rfl
  case hl => exact rfl
  case hs => repeat' (first | exact Slots.nil | (apply Slots.cons; (case hv => (conv => lhs; whnf); try exact rfl)))
  refine EvL.indF (fun s : Nat × Bool => [(5, .ls 0), (6, .t (.int .i64 (s.1 : Int)))]) (fun s => [.row false s.2 3 (spsE (missL a b s.1))]) (fun s => s.1 ≤ a.length) (fun s => a.length - s.1) (0, false) rfl rfl (by simp) (fun s hs => ?_)
  obtain ⟨q, tch⟩ := s
  simp only at hs
  dsimp only
  rcases Nat.lt_or_ge q a.length with h3 | h3
  ·
    obtain ⟨n, hn⟩ := get_of_lt h3
    obtain ⟨m, hm⟩ := get_of_lt (xs := b) (k := q) (by omega)
    have hc := intsE_get hn
    have hd := intsE_get hm
    have hn1 := ok1_at hva hn
    have hm1 := ok1_at hvb hm
    have hl := missL_len a b q
    by_cases hnm : n < m
    ·
      have hv := miss_lt' hn hm hnm
      repeat' (first
         | (with_reducible apply EvK.seq)
         | (with_reducible apply EvK.block)
         | (with_reducible apply EvK.text)
         | (with_reducible apply EvK.drawn)
         | (with_reducible apply EvK.skip)
         | (with_reducible apply thenK_n)
         | ((with_reducible apply EvK.cond_t); (case hc => exact rfl))
         | ((with_reducible apply EvO.spd_t); (case hp => first | assumption | omega))
         | (with_reducible apply EvO.nilT)
         | (with_reducible apply EvO.nilB)
         | ((with_reducible apply EvO.u); (case hx => ((with_reducible apply OpR.apr); (case hs => exact fun _ => rfl); (case ha => exact rfl); (case ht => exact rfl); (case hr => first | (with_reducible exact rw0) | (with_reducible exact rw1) | (with_reducible exact rw2) | (with_reducible exact rw3) | (with_reducible exact rw4) | exact rfl); (case hx => exact rfl); (case hy => exact rfl); (case hn => exact rfl); (case hb => exact rfl); (case hok => exact rfl); (case hlen => exact lenSp24 (by rw [spsE_len]; simp; omega)); (case hv => exact hv); (case hk => (repeat' (first | exact KFr.nil | (with_reducible apply KFr.row) | (with_reducible apply KFr.boxt) | ((apply KFr.box); (case hd => (repeat' (first | exact LEq.nil | ((with_reducible apply LEq.cons); (case h => (conv => lhs; whnf); try exact rfl)) | (apply LEq.cons; (case h => (conv => lhs; whnf); try exact rfl))))))))); (case hf => (repeat' (first | exact LEq.nil | ((with_reducible apply LEq.cons); (case h => (conv => lhs; whnf); try exact rfl)) | (apply LEq.cons; (case h => (conv => lhs; whnf); try exact rfl))))))))
         | ((with_reducible apply EvO.u0); (case hx => first
            | ((with_reducible apply OpR.mv); (conv => lhs; whnf); try exact rfl)
            | ((with_reducible apply OpR.asg); (conv => lhs; whnf); try exact rfl)
            | ((with_reducible apply OpR.inc); (case hx => exact rfl); (case hy => exact rfl); (case h => omega))
            | ((with_reducible apply OpR.add); (case hx => exact rfl); (case hy => exact rfl); (case h => omega))
            | ((with_reducible apply OpR.len); (case ha => exact rfl); (case hy => exact rfl); (case ht => exact rfl); (case hs => exact rfl); (case hn => first | exact List.length_map _ | exact rfl))
            | ((with_reducible apply OpR.ix); (case he => first | (with_reducible exact el0) | (with_reducible exact el1) | (with_reducible exact el2) | (with_reducible exact el3) | (with_reducible exact el4) | (with_reducible exact el5) | (with_reducible exact el6) | (with_reducible exact el7) | exact rfl); (case hx => exact rfl); (case hi => exact rfl); (case hc => assumption); (case hz => exact rfl))
            | exact OpR.r fun _ => rfl))
         | fail)
      refine ⟨(q + 1, true), rfl, rfl, by dsimp only; omega, by dsimp only; omega⟩
    ·
      have hv := miss_ge' hn hm hnm
      repeat' (first
         | (with_reducible apply EvK.seq)
         | (with_reducible apply EvK.block)
         | (with_reducible apply EvK.text)
         | (with_reducible apply EvK.drawn)
         | (with_reducible apply EvK.skip)
         | (with_reducible apply thenK_n)
         | (with_reducible apply blockK_n)
         | ((with_reducible apply EvK.cond_t); (case hc => exact rfl))
         | ((with_reducible apply EvK.cond_f); (case hc => exact rfl))
         | ((with_reducible apply EvO.spd_t); (case hp => first | assumption | omega))
         | ((with_reducible apply EvO.spd_f); (case hp => first | assumption | omega))
         | (with_reducible apply EvO.nilT)
         | ((with_reducible apply EvO.u0); (case hx => first
            | ((with_reducible apply OpR.mv); (conv => lhs; whnf); try exact rfl)
            | ((with_reducible apply OpR.asg); (conv => lhs; whnf); try exact rfl)
            | ((with_reducible apply OpR.inc); (case hx => exact rfl); (case hy => exact rfl); (case h => omega))
            | ((with_reducible apply OpR.len); (case ha => exact rfl); (case hy => exact rfl); (case ht => exact rfl); (case hs => exact rfl); (case hn => first | exact List.length_map _ | exact rfl))
            | ((with_reducible apply OpR.ix); (case he => first | (with_reducible exact el0) | (with_reducible exact el1) | (with_reducible exact el2) | (with_reducible exact el3) | (with_reducible exact el4) | (with_reducible exact el5) | (with_reducible exact el6) | (with_reducible exact el7) | exact rfl); (case hx => exact rfl); (case hi => exact rfl); (case hc => assumption); (case hz => exact rfl))
            | exact OpR.r fun _ => rfl))
         | fail)
      refine ⟨(q + 1, tch), rfl, ?_, by dsimp only; omega, by dsimp only; omega⟩
      rw [hv]; rfl
  ·
    obtain rfl : q = a.length := by omega
    repeat' (first
       | (with_reducible apply EvK.seq)
       | (with_reducible apply EvK.text)
       | (with_reducible apply EvK.exit)
       | (with_reducible apply EvK.ret)
       | (with_reducible apply thenK_n)
       | (with_reducible apply thenK_e)
       | (with_reducible apply blockK_h)
       | ((with_reducible apply EvK.cond_f); (case hc => exact rfl))
       | ((with_reducible apply EvO.spd_f); (case hp => first | assumption | omega))
       | (with_reducible apply EvO.nilT)
       | ((with_reducible apply EvO.u0); (case hx => first
          | ((with_reducible apply OpR.mv); (conv => lhs; whnf); try exact rfl)
          | ((with_reducible apply OpR.asg); (conv => lhs; whnf); try exact rfl)
          | ((with_reducible apply OpR.len); (case ha => exact rfl); (case hy => exact rfl); (case ht => exact rfl); (case hs => exact rfl); (case hn => first | exact List.length_map _ | exact rfl))
          | exact OpR.r fun _ => rfl))
       | fail)
    exact ⟨.inr rfl, rfl⟩
theorem rmissing_n {a b : List Int} (hab : alikeB [a, b] = false) (ha : a.length ≤ 140737488351232) (hb : b.length ≤ 140737488351232) : Cl cfg 22 [.t (intsA a), .t (intsA b)] [] (.ls 0) [.row false false 3 []] := by
  have hal := ralike_c (l := [a, b]) (by simp) (by simp; omega)
  rw [hab] at hal
  refine Cl.of_body rfl Tryz.func22 rfl rfl rfl ?_
  repeat' (first
     | (with_reducible apply EvK.seq)
     | (with_reducible apply EvK.text)
     | (with_reducible apply EvK.ret)
     | (with_reducible apply thenK_r)
     | ((with_reducible apply EvK.cond_t); (case hc => exact rfl))
     | (with_reducible apply EvO.nilT)
     | ((with_reducible apply EvO.u0); (case hx => first
        | ((with_reducible apply OpR.mv); (conv => lhs; whnf); try exact rfl)
        | ((with_reducible apply OpR.asg); (conv => lhs; whnf); try exact rfl)
        | ((with_reducible apply OpR.callF); (case hcal => exact rfl); (case hav => exact rfl); (case hx => exact rfl); (case hh => exact rfl); (case hm => exact rfl); (case hcl => exact hal); (case hr => exact rfl))
        | ((with_reducible apply OpR.bs0); (case hs => exact fun _ => rfl); (case hr => first | (with_reducible exact rw0) | (with_reducible exact rw1) | (with_reducible exact rw2) | (with_reducible exact rw3) | (with_reducible exact rw4) | exact rfl); (case hn => (first | exact ln0 | exact ln1 | exact ln2 | exact ln3 | exact ln4 | exact ln5 | exact ln6 | exact ln7 | exact ln8 | exact ln9 | exact ln10 | exact ln11 | exact ln12 | exact ln13 | exact ln14)); (case hf => (repeat' (first | exact LEq.nil | ((with_reducible apply LEq.cons); (case h => (conv => lhs; whnf); try exact rfl)) | (apply LEq.cons; (case h => (conv => lhs; whnf); try exact rfl))))))
        | exact OpR.r fun _ => rfl))
     | fail)
  exact ⟨.inr rfl, rfl⟩
section
variable {c x : List Int}
theorem lacks_c (h : alikeB [x, c] = true) : Cl cfg 21 [.lp 0 0, .t (intsA x)] [sesB c] (.ls 1) [sesB c, .row false false 3 (spsE (missL x c x.length))] := by
  refine Cl.of_body rfl Tryz.func21 rfl rfl rfl ?_
  repeat' (first
     | (with_reducible apply EvK.seq)
     | (with_reducible apply EvK.text)
     | (with_reducible apply EvK.ret)
     | (with_reducible apply EvO.nilT)
     | ((with_reducible apply EvO.u0); (case hx => first
        | ((with_reducible apply OpR.mv); (conv => lhs; whnf); try exact rfl)
        | ((with_reducible apply OpR.asg); (conv => lhs; whnf); try exact rfl)
        | ((with_reducible apply OpR.callX); (case hcal => exact rfl); (case hav => exact rfl); (case hx => exact rfl); (case hh => exact rfl); (case hm => exact rfl); (case hcl => exact missing_c h); (case hr => exact rfl); (case hd => exact rfl); (case hq => kernel_rfl); (case hn => (first | exact ln0 | exact ln1 | exact ln2 | exact ln3 | exact ln4 | exact ln5 | exact ln6 | exact ln7 | exact ln8 | exact ln9 | exact ln10 | exact ln11 | exact ln12 | exact ln13 | exact ln14)); (case hv => (conv => lhs; whnf); try exact rfl); (case he => (repeat' (first | exact XFr.nil | (with_reducible apply XFr.row) | (with_reducible apply XFr.boxt) | ((apply XFr.box); (case hd => (repeat' (first | exact LEq.nil | ((with_reducible apply LEq.cons); (case h => (conv => lhs; whnf); try exact rfl)) | (apply LEq.cons; (case h => (conv => lhs; whnf); try exact rfl))))))))); (case hf => (repeat' (first | exact LEq.nil | ((with_reducible apply LEq.cons); (case h => (conv => lhs; whnf); try exact rfl)) | (apply LEq.cons; (case h => (conv => lhs; whnf); try exact rfl))))))
        | ((with_reducible apply OpR.fal); (case hy => exact rfl); (case ho => exact rfl); (case hn => (conv => lhs; whnf); try exact rfl))
        | exact OpR.r fun _ => rfl))
     | fail)
  exact ⟨.inr rfl, rfl⟩
theorem lacks_n (h : alikeB [x, c] = false) (hx : x.length ≤ 1000) (hc : c.length ≤ 1000) : Cl cfg 21 [.lp 0 0, .t (intsA x)] [sesB c] .nil [sesB c] := by
  refine Cl.of_body rfl Tryz.func21 rfl rfl rfl ?_
  repeat' (first
     | (with_reducible apply EvK.seq)
     | (with_reducible apply EvK.text)
     | (with_reducible apply EvK.ret)
     | (with_reducible apply EvO.nilT)
     | ((with_reducible apply EvO.u0); (case hx => first
        | ((with_reducible apply OpR.mv); (conv => lhs; whnf); try exact rfl)
        | ((with_reducible apply OpR.asg); (conv => lhs; whnf); try exact rfl)
        | ((with_reducible apply OpR.callF); (case hcal => exact rfl); (case hav => exact rfl); (case hx => exact rfl); (case hh => exact rfl); (case hm => exact rfl); (case hcl => exact missing_n h (by omega) (by omega)); (case hr => exact rfl))
        | ((with_reducible apply OpR.fal); (case hy => exact rfl); (case ho => exact rfl); (case hn => (conv => lhs; whnf); try exact rfl))
        | exact OpR.r fun _ => rfl))
     | fail)
  exact ⟨.inr rfl, rfl⟩
theorem readyT_c (hx : x.length ≤ 1000) (hc : c.length ≤ 1000) : Cl cfg 13 [.t (.tp [intsA c]), .t (intsA x)] [] (.t (.bool (contB' x c))) [] := by
  refine Cl.of_body rfl Tryz.func13 rfl rfl rfl ?_
  repeat' (first
     | (with_reducible apply EvK.seq)
     | (with_reducible apply EvK.text)
     | (with_reducible apply EvK.ret)
     | (with_reducible apply EvO.nilT)
     | ((with_reducible apply EvO.u0); (case hx => first
        | ((with_reducible apply OpR.mv); (conv => lhs; whnf); try exact rfl)
        | ((with_reducible apply OpR.asg); (conv => lhs; whnf); try exact rfl)
        | ((with_reducible apply OpR.callF); (case hcal => exact rfl); (case hav => exact rfl); (case hx => exact rfl); (case hh => exact rfl); (case hm => exact rfl); (case hcl => exact containsB_c hx hc); (case hr => exact rfl))
        | exact OpR.r fun _ => rfl))
     | fail)
  exact ⟨.inr rfl, rfl⟩
theorem idxclk_c {l : List (List Int)} (hl : l.length ≤ 1000) (hx : ∀ x ∈ l, x.length ≤ 1000) (hc : c.length ≤ 1000) : Cl cfg 41 [.t (clksA l), .t (.fn (.func 13) 1 [.tp [intsA c]])] [] (.t (.int .i64 (idxS (fun x => contB' x c) l 0))) [] := by
  refine Cl.of_body rfl Tryz.func41 rfl rfl rfl ?_
  repeat' (first
     | (with_reducible apply EvK.seq)
     | (with_reducible apply EvK.block)
     | (with_reducible apply EvK.text)
     | (with_reducible apply EvO.nilT)
     | ((with_reducible apply EvO.u0); (case hx => first
        | ((with_reducible apply OpR.mv); (conv => lhs; whnf); try exact rfl)
        | ((with_reducible apply OpR.asg); (conv => lhs; whnf); try exact rfl)
        | ((with_reducible apply OpR.len); (case ha => exact rfl); (case hy => exact rfl); (case ht => exact rfl); (case hs => exact rfl); (case hn => first | exact List.length_map _ | exact rfl))))
     | fail)
  apply EvK.loopV
  case ho => exact rfl
  case hp => exact rfl
  case hl => exact rfl
  case hs => repeat' (first | exact Slots.nil | (apply Slots.cons; (case hv => (conv => lhs; whnf); try exact rfl)))
  refine EvL.ind (fun q : Nat => [(8, .t (.int .i64 (q : Int)))]) (fun q => q ≤ l.length ∧ idxS (fun x => contB' x c) l 0 = idxS (fun x => contB' x c) (l.drop q) q) (fun q => l.length - q) 0 rfl (by simp) (fun q hq => ?_)
  obtain ⟨h1, h2⟩ := hq
  rcases Nat.lt_or_ge q l.length with h3 | h3
  ·
    obtain ⟨n, hn⟩ := get_of_lt h3
    have hg := clksE_get hn
    have hr := readyT_c (c := c) (hx n (List.mem_of_getElem? hn)) hc
    rw [drop_at hn, idxS_cons] at h2
    repeat' (first
       | (with_reducible apply EvK.seq)
       | (with_reducible apply EvK.block)
       | (with_reducible apply EvK.text)
       | (with_reducible apply EvK.skip)
       | (with_reducible apply EvK.ret)
       | (with_reducible apply thenK_n)
       | (with_reducible apply thenK_r)
       | (with_reducible apply blockK_n)
       | (with_reducible apply blockK_r)
       | ((with_reducible apply EvK.cond_t); (case hc => exact rfl))
       | ((with_reducible apply EvK.cond_f); (case hc => exact rfl))
       | ((with_reducible apply EvO.spd_t); (case hp => first | assumption | omega))
       | ((with_reducible apply EvO.spb (b := contB' _ _)) <;> intro hq)
       | (with_reducible apply EvO.nilT)
       | ((with_reducible apply EvO.u0); (case hx => first
          | ((with_reducible apply OpR.mv); (conv => lhs; whnf); try exact rfl)
          | ((with_reducible apply OpR.asg); (conv => lhs; whnf); try exact rfl)
          | ((with_reducible apply OpR.callF); (case hcal => exact rfl); (case hav => exact rfl); (case hx => exact rfl); (case hh => exact rfl); (case hm => exact rfl); (case hcl => exact hr); (case hr => exact rfl))
          | ((with_reducible apply OpR.inc); (case hx => exact rfl); (case hy => exact rfl); (case h => omega))
          | ((with_reducible apply OpR.ix); (case he => first | (with_reducible exact el0) | (with_reducible exact el1) | (with_reducible exact el2) | (with_reducible exact el3) | (with_reducible exact el4) | (with_reducible exact el5) | (with_reducible exact el6) | (with_reducible exact el7) | exact rfl); (case hx => exact rfl); (case hi => exact rfl); (case hc => assumption); (case hz => exact rfl))
          | exact OpR.r fun _ => rfl))
       | fail)
    all_goals first
      | (refine fin_i (.inr rfl) rfl ?_)
      | (refine ⟨q + 1, rfl, rfl, ⟨by omega, ?_⟩, by omega⟩)
    all_goals (rw [h2]; simp [*])
  ·
    rw [List.drop_of_length_le h3] at h2
    repeat' (first
       | (with_reducible apply EvK.seq)
       | (with_reducible apply EvK.text)
       | (with_reducible apply EvK.exit)
       | (with_reducible apply EvK.ret)
       | (with_reducible apply thenK_n)
       | (with_reducible apply thenK_e)
       | (with_reducible apply blockK_h)
       | ((with_reducible apply EvK.cond_f); (case hc => exact rfl))
       | ((with_reducible apply EvO.spd_f); (case hp => first | assumption | omega))
       | (with_reducible apply EvO.nilT)
       | ((with_reducible apply EvO.u0); (case hx => first
          | ((with_reducible apply OpR.asg); (conv => lhs; whnf); try exact rfl)
          | exact OpR.r fun _ => rfl))
       | fail)
    all_goals (refine fin_i (.inr rfl) rfl ?_; rw [h2]; rfl)
theorem choose_c {l : List (List Int)} (hl : l.length ≤ 1000) (hx : ∀ x ∈ l, x.length ≤ 1000) (hc : c.length ≤ 1000) : Cl cfg 23 [.lp 0 0, .t (clksA l)] [sesB c] (.t (.int .i64 (idxS (fun x => contB' x c) l 0))) [sesB c] := by
  refine Cl.of_body rfl Tryz.func23 rfl rfl rfl ?_
  repeat' (first
     | (with_reducible apply EvK.seq)
     | (with_reducible apply EvK.text)
     | (with_reducible apply EvK.ret)
     | (with_reducible apply EvO.nilT)
     | ((with_reducible apply EvO.u0); (case hx => first
        | ((with_reducible apply OpR.mv); (conv => lhs; whnf); try exact rfl)
        | ((with_reducible apply OpR.asg); (conv => lhs; whnf); try exact rfl)
        | ((with_reducible apply OpR.callF); (case hcal => exact rfl); (case hav => exact rfl); (case hx => exact rfl); (case hh => exact rfl); (case hm => exact rfl); (case hcl => exact idxclk_c hl hx hc); (case hr => exact rfl))
        | exact OpR.r fun _ => rfl))
     | fail)
  exact ⟨.inr rfl, rfl⟩
end
end Go.Proofs.YtjdhnoffoknlnaaGreatDoor
