/- Law 52: clocks joined, cloned. No condition. -/
import Derived.Test.YtgbfedgghjcdcaaGreatDoorWC
import Derived.Test.YtgbfedgghjcdcaaGreatDoorWB
namespace Go.Proofs.YtgbfedgghjcdcaaGreatDoor
set_option linter.unusedSimpArgs false
set_option linter.unusedVariables false
set_option linter.unusedSectionVars false
open Go.RowKit
set_option maxRecDepth 100000
set_option maxHeartbeats 4000000

theorem newsI (xs : List Int) : newsOk 1 (intsE xs) = true := by simp [newsOk, intsE, oneA]
theorem intsE_set (xs : List Int) (q : Nat) (n : Int) : (intsE xs).set q [.int .i64 n] = intsE (xs.set q n) := by simp [intsE, List.map_set]
theorem clone_c {xs : List Int} (h0 : xs ≠ []) (hl : xs.length ≤ 1000000) : Cl cfg 82 [.t (intsA xs)] [] (.ls 0) [.row false false 1 (intsE xs)] := by
  cases xs with
  | nil => exact absurd rfl h0
  | cons x l =>
    refine Cl.of_body rfl Tryz.func82 rfl rfl rfl ?_
    repeat' (first
       | (with_reducible apply EvK.seq)
       | ((with_reducible apply EvK.text); (try case hm => exact rfl))
       | (with_reducible apply EvK.skip)
       | (with_reducible apply EvK.ret)
       | (with_reducible apply thenK_n)
       | ((with_reducible apply EvK.cond_f); (case hc => exact rfl))
       | (with_reducible apply EvO.nilT)
       | ((with_reducible apply EvO.u); (case hx => ((with_reducible apply OpR.apr); (case hs => exact fun _ => rfl); (case ha => exact rfl); (case ht => exact rfl); (case hr => first | (with_reducible exact rw0) | (with_reducible exact rw1) | (with_reducible exact rw2) | (with_reducible exact rw3) | (with_reducible exact rw4) | exact rfl); (case hx => exact rfl); (case hy => exact rfl); (case hn => exact rfl); (case hb => exact rfl); (case hok => exact newsI (x :: l)); (case hlen => exact lenI (by rw [List.length_nil, intsE_len]; omega)); (case hv => exact List.nil_append _); (case hk => (repeat' (first | exact KFr.nil | (with_reducible apply KFr.row) | (with_reducible apply KFr.boxt) | ((apply KFr.box); (case hd => (repeat' (first | exact LEq.nil | ((with_reducible apply LEq.cons); (case h => (conv => lhs; whnf); try exact rfl)) | (apply LEq.cons; (case h => (conv => lhs; whnf); try exact rfl))))))))); (case hf => (repeat' (first | exact LEq.nil | ((with_reducible apply LEq.cons); (case h => (conv => lhs; whnf); try exact rfl)) | (apply LEq.cons; (case h => (conv => lhs; whnf); try exact rfl))))))))
       | ((with_reducible apply EvO.u0); (case hx => first
          | ((with_reducible apply OpR.mv); (conv => lhs; whnf); try exact rfl)
          | ((with_reducible apply OpR.asg); (conv => lhs; whnf); try exact rfl)
          | ((with_reducible apply OpR.bs0); (case hs => exact fun _ => rfl); (case hr => first | (with_reducible exact rw0) | (with_reducible exact rw1) | (with_reducible exact rw2) | (with_reducible exact rw3) | (with_reducible exact rw4) | exact rfl); (case hn => (first | exact ln0 | exact ln1 | exact ln2 | exact ln3 | exact ln4 | exact ln5 | exact ln6 | exact ln7 | exact ln8 | exact ln9 | exact ln10 | exact ln11 | exact ln12 | exact ln13 | exact ln14)); (case hf => (repeat' (first | exact LEq.nil | ((with_reducible apply LEq.cons); (case h => (conv => lhs; whnf); try exact rfl)) | (apply LEq.cons; (case h => (conv => lhs; whnf); try exact rfl))))))
          | exact OpR.r fun _ => rfl))
       | fail)
    exact ⟨.inr rfl, rfl⟩
theorem max_c (x y : Int) : Cl cfg 95 [.t (.int .i64 x), .t (.int .i64 y)] [] (.t (.int .i64 (max x y))) [] := ⟨3, by kernel_rfl⟩
/-- The first q numbers joined. -/
def joinAt (a b : List Int) (q : Nat) : List Int := (List.zipWith max a b).take q ++ a.drop q
theorem joinAt_0 (a b : List Int) : joinAt a b 0 = a := by simp [joinAt]
theorem joinAt_end {a b : List Int} (h : a.length = b.length) {q : Nat} (hq : a.length ≤ q) : joinAt a b q = List.zipWith max a b := by
  unfold joinAt
  rw [List.drop_of_length_le hq, List.take_of_length_le (by simp; omega)]
  simp
theorem joinAt_get {a b : List Int} (h : a.length = b.length) {q : Nat} {n : Int} (hn : a[q]? = some n) : (joinAt a b q)[q]? = some n := by
  have hq := lt_of_get hn
  unfold joinAt
  rw [List.getElem?_append_right (by simp; omega), List.getElem?_drop]
  have e : q + (q - (List.take q (List.zipWith max a b)).length) = q := by simp; omega
  rw [e, hn]
theorem joinAt_set {a b : List Int} {q : Nat} {n m : Int} (hn : a[q]? = some n) (hm : b[q]? = some m) : (joinAt a b q).set q (max n m) = joinAt a b (q + 1) := by
  have hq := lt_of_get hn
  have hq' := lt_of_get hm
  have hz : (List.zipWith max a b)[q]? = some (max n m) := by rw [List.getElem?_zipWith, hn, hm]
  have hl : (List.take q (List.zipWith max a b)).length = q := by simp; omega
  unfold joinAt
  rw [List.set_append_right q _ (by omega), hl, Nat.sub_self, drop_at hn, List.take_add_one, hz]
  simp
theorem sjoin_c {a b : List Int} (hab : alikeB [a, b] = true) (ha : a.length ≤ 1000) : Cl cfg 93 [.t (.fn (.func 95) 0 []), .t (clksA [a, b])] [] (.ls 0) [.row false false 1 (intsE (List.zipWith max a b))] := by
  have hlen := alike_len hab
  have h0 : a ≠ [] := by rintro rfl; simp [alikeB, al1, validB] at hab
  have hal := alike_c (l := [a, b]) (by simp) (by simp; omega)
  rw [hab] at hal
  refine Cl.of_body rfl Tryz.func93 rfl rfl rfl ?_
  have hg0 : (clksE [a, b])[0]? = some [intsA a] := rfl
  repeat' (first
     | (with_reducible apply EvK.seq)
     | (with_reducible apply EvK.block)
     | ((with_reducible apply EvK.text); (try case hm => exact rfl))
     | (with_reducible apply EvK.skip)
     | (with_reducible apply thenK_n)
     | ((with_reducible apply EvK.cond_f); (case hc => exact rfl))
     | (with_reducible apply EvO.nilT)
     | ((with_reducible apply EvO.u0); (case hx => first
        | ((with_reducible apply OpR.mv); (conv => lhs; whnf); try exact rfl)
        | ((with_reducible apply OpR.asg); (conv => lhs; whnf); try exact rfl)
        | ((with_reducible apply OpR.sll); (case he => exact rfl); (case hx => exact rfl); (case hi => exact rfl); (case hn => simp [clksE]); (case hz => exact rfl); (case hv => exact rfl))
        | ((with_reducible apply OpR.callF); (case hcal => exact rfl); (case hav => exact rfl); (case hx => exact rfl); (case hh => exact rfl); (case hm => exact rfl); (case hcl => exact hal); (case hr => exact rfl))
        | ((with_reducible apply OpR.callX); (case hcal => exact rfl); (case hav => exact rfl); (case hx => exact rfl); (case hh => exact rfl); (case hm => exact rfl); (case hcl => exact clone_c h0 (by omega)); (case hr => exact rfl); (case hd => exact rfl); (case hq => kernel_rfl); (case hn => (first | exact ln0 | exact ln1 | exact ln2 | exact ln3 | exact ln4 | exact ln5 | exact ln6 | exact ln7 | exact ln8 | exact ln9 | exact ln10 | exact ln11 | exact ln12 | exact ln13 | exact ln14)); (case hv => (conv => lhs; whnf); try exact rfl); (case he => (repeat' (first | exact XFr.nil | (with_reducible apply XFr.row) | (with_reducible apply XFr.boxt) | ((apply XFr.box); (case hd => (repeat' (first | exact LEq.nil | ((with_reducible apply LEq.cons); (case h => (conv => lhs; whnf); try exact rfl)) | (apply LEq.cons; (case h => (conv => lhs; whnf); try exact rfl))))))))); (case hf => (repeat' (first | exact LEq.nil | ((with_reducible apply LEq.cons); (case h => (conv => lhs; whnf); try exact rfl)) | (apply LEq.cons; (case h => (conv => lhs; whnf); try exact rfl))))))
        | ((with_reducible apply OpR.len); (case ha => exact rfl); (case hy => exact rfl); (case ht => exact rfl); (case hs => exact rfl); (case hn => first | exact List.length_map _ | exact rfl))
        | ((with_reducible apply OpR.ix); (case he => first | (with_reducible exact el0) | (with_reducible exact el1) | (with_reducible exact el2) | (with_reducible exact el3) | (with_reducible exact el4) | (with_reducible exact el5) | (with_reducible exact el6) | (with_reducible exact el7) | exact rfl); (case hx => exact rfl); (case hi => exact rfl); (case hc => assumption); (case hz => exact rfl))
        | exact OpR.r fun _ => rfl))
     | fail)
  apply EvK.loopV
  case ho => exact rfl
  case hp => exact rfl
  case hl => exact rfl
  case hs => repeat' (first | exact Slots.nil | (apply Slots.cons; (case hv => (conv => lhs; whnf); try exact rfl)))
  refine EvL.indF (fun s : Nat × List Int => [(20, .t (.int .i64 (s.1 : Int)))]) (fun s => [.row false false 1 (intsE s.2)]) (fun s => s.1 ≤ 1 ∧ s.2 = (if s.1 = 0 then a else List.zipWith max a b)) (fun s => 1 - s.1) (0, a) rfl rfl ⟨by simp, rfl⟩ (fun s hs => ?_)
  obtain ⟨i, xs⟩ := s
  obtain ⟨h1, h2⟩ := hs
  simp only at h1 h2
  have hb1 : [b].length = 1 := rfl
  rcases Nat.lt_or_ge i 1 with h3 | h3
  ·
    obtain rfl : i = 0 := by omega
    rw [if_pos rfl] at h2
    subst h2
    have hg1 : (clksE [b])[0]? = some [intsA b] := rfl
    dsimp only
    repeat' (first
       | (with_reducible apply EvK.seq)
       | (with_reducible apply EvK.block)
       | ((with_reducible apply EvK.text); (try case hm => exact rfl))
       | (with_reducible apply EvK.skip)
       | (with_reducible apply thenK_n)
       | ((with_reducible apply EvK.cond_t); (case hc => exact rfl))
       | ((with_reducible apply EvO.spd_t); (case hp => first | assumption | omega))
       | (with_reducible apply EvO.nilT)
       | ((with_reducible apply EvO.u0); (case hx => first
          | ((with_reducible apply OpR.mv); (conv => lhs; whnf); try exact rfl)
          | ((with_reducible apply OpR.asg); (conv => lhs; whnf); try exact rfl)
          | ((with_reducible apply OpR.len); (case ha => exact rfl); (case hy => exact rfl); (case ht => exact rfl); (case hs => exact rfl); (case hn => first | exact List.length_map _ | exact rfl))
          | ((with_reducible apply OpR.ix); (case he => first | (with_reducible exact el0) | (with_reducible exact el1) | (with_reducible exact el2) | (with_reducible exact el3) | (with_reducible exact el4) | (with_reducible exact el5) | (with_reducible exact el6) | (with_reducible exact el7) | exact rfl); (case hx => exact rfl); (case hi => exact rfl); (case hc => assumption); (case hz => exact rfl))
          | exact OpR.r fun _ => rfl))
       | fail)
    apply EvK.loopV
    case ho => exact rfl
    case hp => exact rfl
    case hl => exact rfl
    case hs => repeat' (first | exact Slots.nil | (apply Slots.cons; (case hv => (conv => lhs; whnf); try exact rfl)))
    refine EvL.indF (fun q : Nat => [(26, .t (.int .i64 (q : Int)))]) (fun q => [.row false false 1 (intsE (joinAt xs b q))]) (fun q => q ≤ b.length) (fun q => b.length - q) 0 rfl (by rw [joinAt_0]) (by omega) (fun q hq => ?_)
    rcases Nat.lt_or_ge q b.length with h5 | h5
    ·
      obtain ⟨n, hn⟩ := get_of_lt (xs := xs) (k := q) (by omega)
      obtain ⟨m, hm⟩ := get_of_lt h5
      have hd := intsE_get hm
      have hk := intsE_get (joinAt_get hlen hn)
      have hl := lt_of_get hk
      have hs : (intsE (joinAt xs b q)).set q [.int .i64 (max n m)] = intsE (joinAt xs b (q + 1)) := by rw [intsE_set, joinAt_set hn hm]
      repeat' (first
         | (with_reducible apply EvK.seq)
         | (with_reducible apply EvK.block)
         | ((with_reducible apply EvK.text); (try case hm => exact rfl))
         | (with_reducible apply EvK.skip)
         | (with_reducible apply thenK_n)
         | ((with_reducible apply EvK.cond_t); (case hc => exact rfl))
         | ((with_reducible apply EvO.spd_t); (case hp => first | assumption | omega))
         | (with_reducible apply EvO.nilT)
         | (with_reducible apply EvO.nilB)
         | ((with_reducible apply EvO.u0); (case hx => first
            | ((with_reducible apply OpR.mv); (conv => lhs; whnf); try exact rfl)
            | ((with_reducible apply OpR.asg); (conv => lhs; whnf); try exact rfl)
            | ((with_reducible apply OpR.sti); (case hs => exact fun _ => rfl); (case ha => exact rfl); (case hy => exact rfl); (case ht => exact rfl); (case hone => exact rfl); (case hn => kernel_rfl); (case hb => exact rfl); (case hk => exact hk); (case hj => exact rfl); (case hv => exact hs); (case hf => (repeat' (first | exact LEq.nil | ((with_reducible apply LEq.cons); (case h => (conv => lhs; whnf); try exact rfl)) | (apply LEq.cons; (case h => (conv => lhs; whnf); try exact rfl))))))
            | ((with_reducible apply OpR.callF); (case hcal => exact rfl); (case hav => exact rfl); (case hx => exact rfl); (case hh => exact rfl); (case hm => exact rfl); (case hcl => exact max_c n m); (case hr => exact rfl))
            | ((with_reducible apply OpR.inc); (case hx => exact rfl); (case hy => exact rfl); (case h => omega))
            | ((with_reducible apply OpR.ix); (case he => first | (with_reducible exact el0) | (with_reducible exact el1) | (with_reducible exact el2) | (with_reducible exact el3) | (with_reducible exact el4) | (with_reducible exact el5) | (with_reducible exact el6) | (with_reducible exact el7) | exact rfl); (case hx => exact rfl); (case hi => exact rfl); (case hc => assumption); (case hz => exact rfl))
            | ((with_reducible apply OpR.ixr); (case he => first | (with_reducible exact el0) | (with_reducible exact el1) | (with_reducible exact el2) | (with_reducible exact el3) | (with_reducible exact el4) | (with_reducible exact el5) | (with_reducible exact el6) | (with_reducible exact el7) | exact rfl); (case hx => exact rfl); (case hi => exact rfl); (case hb => exact rfl); (case hq => first | assumption | omega))
            | ((with_reducible apply OpR.ldi); (case hy => exact rfl); (case ht => exact rfl); (case hb => exact rfl); (case hk => assumption))
            | exact OpR.r fun _ => rfl))
         | fail)
      refine ⟨q + 1, rfl, rfl, by omega, by omega⟩
    ·
      have hj := joinAt_end hlen (q := q) (by omega)
      repeat' (first
         | (with_reducible apply EvK.seq)
         | ((with_reducible apply EvK.text); (try case hm => exact rfl))
         | (with_reducible apply EvK.exit)
         | (with_reducible apply thenK_n)
         | (with_reducible apply thenK_e)
         | (with_reducible apply blockK_n)
         | (with_reducible apply blockK_h)
         | ((with_reducible apply EvK.cond_f); (case hc => exact rfl))
         | ((with_reducible apply EvO.spd_f); (case hp => first | assumption | omega))
         | (with_reducible apply EvO.nilT)
         | ((with_reducible apply EvO.u0); (case hx => first
            | ((with_reducible apply OpR.mv); (conv => lhs; whnf); try exact rfl)
            | ((with_reducible apply OpR.inc); (case hx => exact rfl); (case hy => exact rfl); (case h => omega))
            | exact OpR.r fun _ => rfl))
         | fail)
      refine ⟨(1, joinAt xs b q), rfl, rfl, ⟨Nat.le_refl _, hj⟩, Nat.zero_lt_one⟩
  ·
    obtain rfl : i = 1 := by omega
    rw [if_neg (by omega)] at h2
    dsimp only
    repeat' (first
       | (with_reducible apply EvK.seq)
       | ((with_reducible apply EvK.text); (try case hm => exact rfl))
       | (with_reducible apply EvK.exit)
       | (with_reducible apply EvK.ret)
       | (with_reducible apply thenK_n)
       | (with_reducible apply thenK_e)
       | (with_reducible apply blockK_h)
       | ((with_reducible apply EvK.cond_f); (case hc => exact rfl))
       | ((with_reducible apply EvO.spd_f); (case hp => first | assumption | omega))
       | (with_reducible apply EvO.nilT)
       | ((with_reducible apply EvO.u0); (case hx => first
          | ((with_reducible apply OpR.mv); (conv => lhs; whnf); try exact rfl)
          | ((with_reducible apply OpR.asg); (conv => lhs; whnf); try exact rfl)
          | exact OpR.r fun _ => rfl))
       | fail)
    exact ⟨.inr rfl, by rw [h2]; rfl⟩
end Go.Proofs.YtgbfedgghjcdcaaGreatDoor
