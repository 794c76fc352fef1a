/- Law 32: the order of events; exchanges in a list. No condition. -/
import Derived.Test.YtgbfedgghjcdcaaGreatDoorTKA
import Derived.Test.YtgbfedgghjcdcaaGreatDoorTS
namespace Go.Proofs.YtgbfedgghjcdcaaGreatDoor
set_option linter.unusedSimpArgs false
set_option linter.unusedVariables false
set_option linter.unusedSectionVars false
open Go.RowKit
set_option maxRecDepth 100000
set_option maxHeartbeats 16000000

theorem nan_c (n : Int) : Cl cfg 137 [.t (.int .i64 n)] [] (.t (.bool false)) [] := by
  refine Cl.of_body rfl Tryz.func137 rfl rfl rfl ?_
  repeat' (first
 | (with_reducible apply EvK.seq)
 | ((with_reducible apply EvK.text); (try case hm => exact rfl))
 | (with_reducible apply EvK.ret)
 | ((with_reducible apply EvO.spn_f); (case hp => first | assumption | omega))
 | (with_reducible apply EvO.nilT)
 | ((with_reducible apply EvO.u0); (case hx => first
 | ((with_reducible apply OpR.mv); (conv => lhs; whnf); try exact rfl)
 | ((with_reducible apply OpR.asg); (conv => lhs; whnf); try exact rfl)
 | exact OpR.r fun _ => rfl))
 | fail)
  all_goals first
    | exact ⟨.inr rfl, rfl⟩
    | (refine fin_b (.inr rfl) rfl ?_; simp)
theorem comp_c (a b : Int) : Cl cfg 90 [.t (.int .i64 a), .t (.int .i64 b)] [] (.t (.int .i64 (sg a b))) [] := by
  refine Cl.of_body rfl Tryz.func90 rfl rfl rfl ?_
  have ka := nan_c a
  have kb := nan_c b
  repeat' (first
 | (with_reducible apply EvK.seq)
 | ((with_reducible apply EvK.text); (try case hm => exact rfl))
 | (with_reducible apply EvK.skip)
 | (with_reducible apply EvK.ret)
 | (with_reducible apply thenK_n)
 | (with_reducible apply thenK_r)
 | ((with_reducible apply EvK.cond_t); (case hc => exact rfl))
 | ((with_reducible apply EvK.cond_f); (case hc => exact rfl))
 | ((with_reducible apply EvO.spd) <;> intro hq)
 | (with_reducible apply EvO.nilT)
 | ((with_reducible apply EvO.u0); (case hx => first
 | ((with_reducible apply OpR.mv); (conv => lhs; whnf); try exact rfl)
 | ((with_reducible apply OpR.asg); (conv => lhs; whnf); try exact rfl)
 | ((with_reducible apply OpR.callF); (case hcal => exact rfl); (case hav => exact rfl); (case hx => exact rfl); (case hh => exact rfl); (case hm => exact rfl); (case hcl => exact ka); (case hr => exact rfl))
 | ((with_reducible apply OpR.callF); (case hcal => exact rfl); (case hav => exact rfl); (case hx => exact rfl); (case hh => exact rfl); (case hm => exact rfl); (case hcl => exact kb); (case hr => exact rfl))
 | exact OpR.r fun _ => rfl))
 | fail)
  all_goals (refine fin_i (.inr rfl) rfl ?_; unfold sg; first | rw [if_pos (by omega)] | rw [if_neg (by omega), if_pos (by omega)] | rw [if_neg (by omega), if_neg (by omega)])
theorem or_hit {l : List Int} {q : Nat} {x : Int} (h : l[q]? = some x) : orS (l.drop q) = if x = 0 then orS (l.drop (q + 1)) else x := by rw [drop_get h]; rfl
theorem or_c {l : List Int} (hl : l.length ≤ 1000) : Cl cfg 89 [.t (intsA l)] [] (.t (.int .i64 (orS l))) [] := by
  refine Cl.of_body rfl Tryz.func89 rfl rfl rfl ?_
  have hle := intsE_len l
  repeat' (first
 | (with_reducible apply EvK.seq)
 | (with_reducible apply EvK.block)
 | ((with_reducible apply EvK.text); (try case hm => exact rfl))
 | (with_reducible apply EvO.nilT)
 | ((with_reducible apply EvO.u0); (case hx => first
 | ((with_reducible apply OpR.mv); (conv => lhs; whnf); try exact rfl)
 | ((with_reducible apply OpR.asg); (conv => lhs; whnf); try exact rfl)
 | ((with_reducible apply OpR.len); (case ha => exact rfl); (case hy => exact rfl); (case ht => exact rfl); (case hs => exact rfl); (case hn => first | exact List.length_map _ | exact rfl))))
 | fail)
  apply EvK.loopV
  case ho => exact rfl
  case hp => exact rfl
  case hl => exact rfl
  case hs => repeat' (first | exact Slots.nil | (apply Slots.cons; (case hv => (conv => lhs; whnf); try exact rfl)))
  refine EvL.ind (fun q : Nat => [(8, .t (.int .i64 (q : Int)))]) (fun q => q ≤ l.length ∧ orS l = orS (l.drop q)) (fun q => l.length - q) 0 rfl ⟨by omega, rfl⟩ (fun q hq => ?_)
  obtain ⟨h1, h2⟩ := hq
  rw [h2]
  rcases Nat.lt_or_ge q l.length with h3 | h3
  ·
    obtain ⟨x, hx⟩ := get_of_lt h3
    have hc := intsE_get hx
    have ho := or_hit hx
    by_cases h0 : x = 0
    ·
      rw [if_pos h0] at ho
      repeat' (first
 | (with_reducible apply EvK.seq)
 | (with_reducible apply EvK.block)
 | ((with_reducible apply EvK.text); (try case hm => exact rfl))
 | (with_reducible apply EvK.skip)
 | (with_reducible apply thenK_n)
 | (with_reducible apply blockK_n)
 | ((with_reducible apply EvK.cond_t); (case hc => exact rfl))
 | ((with_reducible apply EvK.cond_f); (case hc => exact rfl))
 | ((with_reducible apply EvO.spd_t); (case hp => first | assumption | omega))
 | ((with_reducible apply EvO.spn_f); (case hp => first | assumption | omega))
 | (with_reducible apply EvO.nilT)
 | ((with_reducible apply EvO.u0); (case hx => first
 | ((with_reducible apply OpR.mv); (conv => lhs; whnf); try exact rfl)
 | ((with_reducible apply OpR.asg); (conv => lhs; whnf); try exact rfl)
 | ((with_reducible apply OpR.inc); (case hx => exact rfl); (case hy => exact rfl); (case h => omega))
 | ((with_reducible apply OpR.ix); (case he => first | (with_reducible exact el0) | (with_reducible exact el1) | (with_reducible exact el2) | (with_reducible exact el3) | (with_reducible exact el4) | (with_reducible exact el5) | (with_reducible exact el6) | (with_reducible exact el7) | exact rfl); (case hx => exact rfl); (case hi => exact rfl); (case hc => assumption); (case hz => exact rfl))
 | exact OpR.r fun _ => rfl))
 | fail)
      exact ⟨q + 1, rfl, rfl, ⟨by omega, ho⟩, by omega⟩
    ·
      rw [if_neg h0] at ho
      rw [ho]
      repeat' (first
 | (with_reducible apply EvK.seq)
 | (with_reducible apply EvK.block)
 | ((with_reducible apply EvK.text); (try case hm => exact rfl))
 | (with_reducible apply EvK.skip)
 | (with_reducible apply EvK.ret)
 | (with_reducible apply thenK_n)
 | (with_reducible apply thenK_r)
 | (with_reducible apply blockK_r)
 | ((with_reducible apply EvK.cond_t); (case hc => exact rfl))
 | ((with_reducible apply EvO.spd_t); (case hp => first | assumption | omega))
 | ((with_reducible apply EvO.spn_t); (case hp => first | assumption | omega))
 | (with_reducible apply EvO.nilT)
 | ((with_reducible apply EvO.u0); (case hx => first
 | ((with_reducible apply OpR.mv); (conv => lhs; whnf); try exact rfl)
 | ((with_reducible apply OpR.asg); (conv => lhs; whnf); try exact rfl)
 | ((with_reducible apply OpR.ix); (case he => first | (with_reducible exact el0) | (with_reducible exact el1) | (with_reducible exact el2) | (with_reducible exact el3) | (with_reducible exact el4) | (with_reducible exact el5) | (with_reducible exact el6) | (with_reducible exact el7) | exact rfl); (case hx => exact rfl); (case hi => exact rfl); (case hc => assumption); (case hz => exact rfl))
 | exact OpR.r fun _ => rfl))
 | fail)
      exact ⟨.inr rfl, rfl⟩
  ·
    rw [drop_end h3]
    repeat' (first
 | (with_reducible apply EvK.seq)
 | ((with_reducible apply EvK.text); (try case hm => exact rfl))
 | (with_reducible apply EvK.exit)
 | (with_reducible apply EvK.ret)
 | (with_reducible apply thenK_n)
 | (with_reducible apply thenK_e)
 | (with_reducible apply blockK_h)
 | ((with_reducible apply EvK.cond_f); (case hc => exact rfl))
 | ((with_reducible apply EvO.spd_f); (case hp => first | assumption | omega))
 | (with_reducible apply EvO.nilT)
 | ((with_reducible apply EvO.u0); (case hx => first
 | ((with_reducible apply OpR.mv); (conv => lhs; whnf); try exact rfl)
 | ((with_reducible apply OpR.asg); (conv => lhs; whnf); try exact rfl)
 | exact OpR.r fun _ => rfl))
 | fail)
    exact ⟨.inr rfl, rfl⟩
theorem cmpE_c (a b : Ev) : Cl cfg 88 [.t (evA a), .t (evA b)] [] (.t (.int .i64 (cmpE a b))) [] := by
  rw [evA_cells, evA_cells]
  refine Cl.of_body rfl Tryz.func88 rfl rfl rfl ?_
  have k1 := comp_c a.t b.t
  have k2 := comp_c a.r b.r
  have k3 := comp_c a.n b.n
  have ko := or_c (l := [sg a.t b.t, sg a.r b.r, sg a.n b.n]) (by simp)
  repeat' (first
 | (with_reducible apply EvK.seq)
 | ((with_reducible apply EvK.text); (try case hm => exact rfl))
 | ((with_reducible apply EvK.drawn); (case hm => exact rfl))
 | (with_reducible apply EvK.ret)
 | (with_reducible apply EvO.nilT)
 | ((with_reducible apply EvO.u0); (case hx => first
 | ((with_reducible apply OpR.asg); (conv => lhs; whnf); try exact rfl)
 | ((with_reducible apply OpR.bsl (es := intsE [sg a.t b.t, sg a.r b.r, sg a.n b.n])); (case hw => exact rfl); (case ho => kernel_rfl); (case h => kernel_rfl))
 | ((with_reducible apply OpR.callF); (case hcal => exact rfl); (case hav => exact rfl); (case hx => exact rfl); (case hh => exact rfl); (case hm => exact rfl); (case hcl => exact k1); (case hr => exact rfl))
 | ((with_reducible apply OpR.callF); (case hcal => exact rfl); (case hav => exact rfl); (case hx => exact rfl); (case hh => exact rfl); (case hm => exact rfl); (case hcl => exact k2); (case hr => exact rfl))
 | ((with_reducible apply OpR.callF); (case hcal => exact rfl); (case hav => exact rfl); (case hx => exact rfl); (case hh => exact rfl); (case hm => exact rfl); (case hcl => exact k3); (case hr => exact rfl))
 | ((with_reducible apply OpR.callF); (case hcal => exact rfl); (case hav => exact rfl); (case hx => exact rfl); (case hh => exact rfl); (case hm => exact rfl); (case hcl => exact ko); (case hr => exact rfl))
 | ((with_reducible apply OpR.fal); (case hy => exact rfl); (case ho => exact rfl); (case hn => (conv => lhs; whnf); try exact rfl))
 | ((with_reducible apply OpR.bxt); (case hs => exact fun _ => rfl); (case hy => exact rfl); (case ho => kernel_rfl); (case hn => (first | exact ln0 | exact ln1 | exact ln2 | exact ln3 | exact ln4 | exact ln5 | exact ln6 | exact ln7 | exact ln8 | exact ln9 | exact ln10 | exact ln11 | exact ln12 | exact ln13 | exact ln14)); (case hf => (repeat' (first | exact LEq.nil | ((first | with_reducible apply LEq.cons | apply LEq.cons); (case h => (conv => lhs; whnf); try exact rfl))))))
 | exact OpR.r fun _ => rfl))
 | fail)
  exact ⟨.inr rfl, rfl⟩
theorem evs_get {l : List Ev} {k : Nat} {e : Ev} (h : l[k]? = some e) : (evsE l)[k]? = some (evCs e) := by
  unfold evsE; rw [List.getElem?_map, h]; rfl
theorem evs_set (l : List Ev) (k : Nat) (e : Ev) : (evsE l).set k (evCs e) = evsE (l.set k e) := by
  unfold evsE; rw [List.map_set]
def cF : SV := .t (.fn (.func 88) 0 [])
theorem swap_c {P U M V R : List Ev} {n : Nat} (hU : U.length = n) (hV : V.length = n) (hl : (P ++ (U ++ (M ++ (V ++ R)))).length ≤ 1000) :
    Cl cfg 225 [.ls 0, .t (.int .i64 (P.length : Int)), .t (.int .i64 ((P.length + n + M.length : Nat) : Int)), .t (.int .i64 (n : Int)), cF] [.row false false 13 (evsE (P ++ (U ++ (M ++ (V ++ R)))))] (.tup []) [.row false false 13 (evsE (P ++ (V ++ (M ++ (U ++ R)))))] := by
  simp only [List.length_append] at hl
  refine Cl.of_body rfl Tryz.func225 rfl rfl rfl ?_
  repeat' (first
 | (with_reducible apply EvK.seq)
 | (with_reducible apply EvK.block)
 | ((with_reducible apply EvK.text); (try case hm => exact rfl))
 | (with_reducible apply EvO.nilT)
 | ((with_reducible apply EvO.u0); (case hx => ((with_reducible apply OpR.asg); (conv => lhs; whnf); try exact rfl)))
 | fail)
  apply EvK.loopV
  case ho => exact rfl
  case hp => exact rfl
  case hl => exact rfl
  case hs => repeat' (first | exact Slots.nil | (apply Slots.cons; (case hv => (conv => lhs; whnf); try exact rfl)))
  refine EvL.indF (fun k : Nat => [(10, .t (.int .i64 (k : Int)))]) (fun k => [.row false false 13 (evsE (P ++ ((V.take k ++ U.drop k) ++ (M ++ ((U.take k ++ V.drop k) ++ R)))))]) (fun k => k ≤ n) (fun k => n - k) 0 rfl rfl (by omega) (fun k hk => ?_)
  rcases Nat.lt_or_ge k n with h3 | h3
  ·
    obtain ⟨u, hu⟩ := get_of_lt (xs := U) (k := k) (by omega)
    obtain ⟨v, hv⟩ := get_of_lt (xs := V) (k := k) (by omega)
    obtain ⟨d, hd⟩ : ∃ d, P ++ ((V.take k ++ U.drop k) ++ (M ++ ((U.take k ++ V.drop k) ++ R))) = d := ⟨_, rfl⟩
    have hlU : (U.take k).length = k := by simp; omega
    have hlV : (V.take k).length = k := by simp; omega
    have e1 : d = (P ++ V.take k) ++ u :: (U.drop (k + 1) ++ (M ++ ((U.take k ++ V.drop k) ++ R))) := by rw [← hd, drop_get hu]; simp
    have e2 : d = (P ++ ((V.take k ++ U.drop k) ++ (M ++ U.take k))) ++ v :: (V.drop (k + 1) ++ R) := by rw [← hd, drop_get hv]; simp
    have i1 : P.length + k = (P ++ V.take k).length := by simp [hlV]
    have i2 : P.length + n + M.length + k = (P ++ ((V.take k ++ U.drop k) ++ (M ++ U.take k))).length := by simp [hlV, hlU]; omega
    have g1 : d[P.length + k]? = some u := by rw [e1]; exact get_at _ _ _ i1
    have g2 : d[P.length + n + M.length + k]? = some v := by rw [e2]; exact get_at _ _ _ i2
    have s1 : d.set (P.length + k) v = (P ++ ((V.take (k + 1) ++ U.drop (k + 1)) ++ (M ++ U.take k))) ++ v :: (V.drop (k + 1) ++ R) := by
      rw [e1, set_at _ _ _ _ i1, take_succ' hv, drop_get hv]; simp
    have i3 : P.length + n + M.length + k = (P ++ ((V.take (k + 1) ++ U.drop (k + 1)) ++ (M ++ U.take k))).length := by
      have : (V.take (k + 1)).length = k + 1 := by simp; omega
      simp [hlU]; omega
    have s2 : (d.set (P.length + k) v).set (P.length + n + M.length + k) u = P ++ ((V.take (k + 1) ++ U.drop (k + 1)) ++ (M ++ ((U.take (k + 1) ++ V.drop (k + 1)) ++ R))) := by
      rw [s1, set_at _ _ _ _ i3, take_succ' hu]; simp
    obtain ⟨d1, hd1⟩ : ∃ d1, d.set (P.length + k) v = d1 := ⟨_, rfl⟩
    rw [hd1] at s2
    obtain ⟨d2, hd2⟩ : ∃ d2, P ++ ((V.take (k + 1) ++ U.drop (k + 1)) ++ (M ++ ((U.take (k + 1) ++ V.drop (k + 1)) ++ R))) = d2 := ⟨_, rfl⟩
    rw [hd2] at s2
    have hdl : d.length = P.length + (n + (M.length + (n + R.length))) := by rw [← hd]; simp [hlU, hlV]; omega
    have hld := evsE_len d
    have hld1 : (evsE d1).length = d.length := by rw [evsE_len, ← hd1]; simp
    obtain ⟨a, ha⟩ : ∃ a, P.length = a := ⟨_, rfl⟩
    obtain ⟨b, hb⟩ : ∃ b, a + n + M.length = b := ⟨_, rfl⟩
    rw [ha] at g1 g2 s2 hdl hd1 hl ⊢
    rw [hb] at g2 s2 ⊢
    have n1 : ((a : Int) + (k : Int)).toNat = a + k := by omega
    have n2 : ((b : Int) + (k : Int)).toNat = b + k := by omega
    have c1 : (evsE d)[((a : Int) + (k : Int)).toNat]? = some (evCs u) := by rw [n1]; exact evs_get g1
    have c2 : (evsE d)[((b : Int) + (k : Int)).toNat]? = some (evCs v) := by rw [n2]; exact evs_get g2
    have c3 : (evsE d1)[((b : Int) + (k : Int)).toNat]? = some (evCs v) := by
      rw [n2]
      refine evs_get ?_
      rw [← hd1, List.getElem?_set_ne (by omega)]
      exact g2
    have t1 : (evsE d).set ((a : Int) + (k : Int)).toNat (evCs v) = evsE d1 := by rw [n1, evs_set, hd1]
    have t2 : (evsE d1).set ((b : Int) + (k : Int)).toNat (evCs u) = evsE d2 := by rw [n2, evs_set, s2]
    rw [hd]
    repeat' (first
 | (with_reducible apply EvK.seq)
 | (with_reducible apply EvK.block)
 | ((with_reducible apply EvK.text); (try case hm => exact rfl))
 | ((with_reducible apply EvK.drawnF); (case hm => exact rfl))
 | (with_reducible apply EvK.skip)
 | (with_reducible apply thenK_n)
 | ((with_reducible apply EvK.cond_t); (case hc => exact rfl))
 | ((with_reducible apply EvO.spd_t); (case hp => first | assumption | omega))
 | (with_reducible apply EvO.nilT)
 | (with_reducible apply EvOF.nilB)
 | ((with_reducible apply EvOF.u); (case hfl => kernel_rfl); (case hx => first
 | ((with_reducible apply OpR.mv); (conv => lhs; whnf); try exact rfl)
 | ((with_reducible apply OpR.stq); (case hs => exact fun _ => rfl); (case ht => first | (with_reducible exact sz1) | exact rfl); (case ha => exact rfl); (case hy => exact rfl); (case hone => kernel_rfl); (case hl => exact rfl); (case hb => exact rfl); (case hk => exact c1); (case ho => exact rfl); (case hv => exact t1); (case hf => (repeat' (first | exact LEq.nil | ((first | with_reducible apply LEq.cons | apply LEq.cons); (case h => (conv => lhs; whnf); try exact rfl))))))
 | ((with_reducible apply OpR.stq); (case hs => exact fun _ => rfl); (case ht => first | (with_reducible exact sz1) | exact rfl); (case ha => exact rfl); (case hy => exact rfl); (case hone => kernel_rfl); (case hl => exact rfl); (case hb => exact rfl); (case hk => exact c3); (case ho => exact rfl); (case hv => exact t2); (case hf => (repeat' (first | exact LEq.nil | ((first | with_reducible apply LEq.cons | apply LEq.cons); (case h => (conv => lhs; whnf); try exact rfl))))))
 | ((with_reducible apply OpR.add); (case hx => exact rfl); (case hy => exact rfl); (case h => omega))
 | ((with_reducible apply OpR.ixr); (case he => first | (with_reducible exact el0) | (with_reducible exact el1) | (with_reducible exact el2) | (with_reducible exact el3) | (with_reducible exact el4) | (with_reducible exact el5) | (with_reducible exact el6) | (with_reducible exact el7) | exact rfl); (case hx => exact rfl); (case hi => exact rfl); (case hb => exact rfl); (case hq => first | assumption | omega))
 | ((with_reducible apply OpR.lds); (case hy => exact rfl); (case ht => first | (with_reducible exact sz0) | (with_reducible exact sz1) | (with_reducible exact sz2) | (with_reducible exact sz3) | (with_reducible exact sz4) | (with_reducible exact sz5) | (with_reducible exact sz6) | (with_reducible exact sz7) | (with_reducible exact sz8) | (with_reducible exact sz9)); (case hb => exact rfl); (case hk => assumption); (case hl => kernel_rfl); (case hv => (repeat' (first | exact LEq.nil | ((first | with_reducible apply LEq.cons | apply LEq.cons); (case h => (conv => lhs; whnf); try exact rfl))))))))
 | ((with_reducible apply EvO.u0); (case hx => first
 | ((with_reducible apply OpR.mv); (conv => lhs; whnf); try exact rfl)
 | ((with_reducible apply OpR.asg); (conv => lhs; whnf); try exact rfl)
 | ((with_reducible apply OpR.inc); (case hx => exact rfl); (case hy => exact rfl); (case h => omega))
 | exact OpR.r fun _ => rfl))
 | fail)
    refine ⟨k + 1, rfl, by rw [hd2]; rfl, by omega, by omega⟩
  ·
    have hk : k = n := by omega
    subst hk
    rw [List.take_of_length_le (l := V) (by omega), drop_end (l := U) (by omega), List.take_of_length_le (l := U) (by omega), drop_end (l := V) (by omega), List.append_nil, List.append_nil]
    repeat' (first
 | (with_reducible apply EvK.seq)
 | ((with_reducible apply EvK.text); (try case hm => exact rfl))
 | (with_reducible apply EvK.exit)
 | (with_reducible apply thenK_e)
 | (with_reducible apply blockK_h)
 | ((with_reducible apply EvK.cond_f); (case hc => exact rfl))
 | ((with_reducible apply EvO.spd_f); (case hp => first | assumption | omega))
 | (with_reducible apply EvO.nilT)
 | ((with_reducible apply EvO.u0); (case hx => first
 | ((with_reducible apply OpR.mv); (conv => lhs; whnf); try exact rfl)
 | exact OpR.r fun _ => rfl))
 | fail)
    exact ⟨.inl rfl, rfl⟩
end Go.Proofs.YtgbfedgghjcdcaaGreatDoor

namespace Go.Proofs.YtgbfedgghjcdcaaGreatDoor
set_option linter.unusedSimpArgs false
set_option linter.unusedVariables false
set_option linter.unusedSectionVars false
open Go.RowKit
set_option maxRecDepth 100000
set_option maxHeartbeats 16000000

theorem swap_k {d d' : List Ev} (P U M V R : List Ev) (hd : d = P ++ (U ++ (M ++ (V ++ R)))) (hd' : P ++ (V ++ (M ++ (U ++ R))) = d') (hUV : V.length = U.length) (hl : d.length ≤ 1000) (a b n : Int) (ha : a = P.length) (hb : b = P.length + U.length + M.length) (hn : n = U.length) :
    Cl cfg 225 [.ls 0, .t (.int .i64 a), .t (.int .i64 b), .t (.int .i64 n), cF] [.row false false 13 (evsE d)] (.tup []) [.row false false 13 (evsE d')] := by
  subst hd hd'
  have := swap_c (P := P) (U := U) (M := M) (V := V) (R := R) (n := U.length) rfl hUV hl
  rw [ha, hb, hn]
  have e : (P.length : Int) + U.length + M.length = ((P.length + U.length + M.length : Nat) : Int) := by omega
  rw [e]
  exact this
theorem rot_c {P X Y R : List Ev} {d d' : List Ev} (hd : d = P ++ (X ++ (Y ++ R))) (hd' : P ++ (Y ++ (X ++ R)) = d') (hX : 0 < X.length) (hY : 0 < Y.length) (hl : d.length ≤ 1000) (a m b : Int) (ha : a = P.length) (hm : m = P.length + X.length) (hb : b = P.length + X.length + Y.length) :
    Cl cfg 207 [.ls 0, .t (.int .i64 a), .t (.int .i64 m), .t (.int .i64 b), cF] [.row false false 13 (evsE d)] (.tup []) [.row false false 13 (evsE d')] := by
  have hlen : P.length + (X.length + (Y.length + R.length)) ≤ 1000 := by rw [hd] at hl; simpa using hl
  subst hd
  refine Cl.of_body rfl Tryz.func207 rfl rfl rfl ?_
  repeat' (first
 | (with_reducible apply EvK.seq)
 | (with_reducible apply EvK.block)
 | ((with_reducible apply EvK.text); (try case hm => exact rfl))
 | (with_reducible apply EvO.nilT)
 | ((with_reducible apply EvO.u0); (case hx => first
 | ((with_reducible apply OpR.mv); (conv => lhs; whnf); try exact rfl)
 | ((with_reducible apply OpR.asg); (conv => lhs; whnf); try exact rfl)
 | ((with_reducible apply OpR.sub); (case hx => exact rfl); (case hy => exact rfl); (case h => omega))))
 | fail)
  apply EvK.loopV
  case ho => exact rfl
  case hp => exact rfl
  case hl => exact rfl
  case hs => repeat' (first | exact Slots.nil | (apply Slots.cons; (case hv => (conv => lhs; whnf); try exact rfl)))
  refine EvL.indF (fun s : Int × Int × List Ev × List Ev × List Ev × List Ev => [(10, .t (.int .i64 s.1)), (11, .t (.int .i64 s.2.1))]) (fun s => [.row false false 13 (evsE (P ++ (s.2.2.1 ++ (s.2.2.2.1 ++ (s.2.2.2.2.1 ++ (s.2.2.2.2.2 ++ R))))))])
    (fun s => (s.2.2.1 ++ (s.2.2.2.2.1 ++ (s.2.2.2.1 ++ s.2.2.2.2.2)) = Y ++ X ∧ s.2.2.1.length + s.2.2.2.1.length = X.length ∧ s.2.2.2.2.1.length + s.2.2.2.2.2.length = Y.length ∧ 0 < s.2.2.2.1.length ∧ 0 < s.2.2.2.2.1.length) ∧ s.1 = s.2.2.2.1.length ∧ s.2.1 = s.2.2.2.2.1.length) (fun s => s.2.2.2.1.length + s.2.2.2.2.1.length) (m - a, b - m, [], X, Y, []) rfl rfl ⟨⟨by simp, by simp, by simp, hX, hY⟩, by dsimp only; omega, by dsimp only; omega⟩ (fun s hs => ?_)
  obtain ⟨i, j, D1, U, V, D2⟩ := s
  dsimp only at hs ⊢
  obtain ⟨⟨h1, h2, h3, h4, h5⟩, hi, hj⟩ := hs
  obtain ⟨d, hd⟩ : ∃ d, P ++ (D1 ++ (U ++ (V ++ (D2 ++ R)))) = d := ⟨_, rfl⟩
  have hdl : d.length ≤ 1000 := by rw [← hd]; simp; omega
  rw [hd]
  rcases Nat.lt_trichotomy U.length V.length with h6 | h6 | h6
  ·
    obtain ⟨V1, V2, rfl, hV2⟩ : ∃ V1 V2, V = V1 ++ V2 ∧ V2.length = U.length := ⟨V.take (V.length - U.length), V.drop (V.length - U.length), by simp, by simp; omega⟩
    obtain ⟨d2, hd2⟩ : ∃ d2, P ++ (D1 ++ (V2 ++ (V1 ++ ((U ++ D2) ++ R)))) = d2 := ⟨_, rfl⟩
    have hvl : (V1 ++ V2).length = V1.length + V2.length := by simp
    have hk := swap_k (d := d) (d' := d2) (P ++ D1) U V1 V2 (D2 ++ R) (by rw [← hd]; simp) (by rw [← hd2]; simp) hV2 hdl
    have hpd : (P ++ D1).length = P.length + D1.length := by simp
    repeat' (first
 | (with_reducible apply EvK.seq)
 | (with_reducible apply EvK.block)
 | ((with_reducible apply EvK.text); (try case hm => exact rfl))
 | (with_reducible apply EvK.skip)
 | (with_reducible apply thenK_n)
 | ((with_reducible apply EvK.cond_t); (case hc => exact rfl))
 | ((with_reducible apply EvK.cond_f); (case hc => exact rfl))
 | ((with_reducible apply EvO.spd_f); (case hp => first | assumption | omega))
 | ((with_reducible apply EvO.spn_t); (case hp => first | assumption | omega))
 | (with_reducible apply EvO.nilT)
 | (with_reducible apply EvO.nilB)
 | ((with_reducible apply EvO.u0); (case hx => first
 | ((with_reducible apply OpR.mv); (conv => lhs; whnf); try exact rfl)
 | ((with_reducible apply OpR.asg); (conv => lhs; whnf); try exact rfl)
 | ((with_reducible apply OpR.callQ [0]); (case hdr => exact rfl); (case hcal => exact rfl); (case hav => exact rfl); (case hx => exact rfl); (case hh => exact rfl); (case hs0 => kernel_rfl); (case hf => kernel_rfl); (case hg => exact rfl); (case hc => kernel_rfl); (case hm => exact rfl); (case hb => exact rfl); (case hcl => exact (hk _ _ _ (by omega) (by omega) (by omega))); (case hk => exact rfl); (case hv => (conv => lhs; whnf); try exact rfl); (case hl => (repeat' (first | exact LEq.nil | ((first | with_reducible apply LEq.cons | apply LEq.cons); (case h => (conv => lhs; whnf); try exact rfl))))); (case hq => exact rfl))
 | ((with_reducible apply OpR.add); (case hx => exact rfl); (case hy => exact rfl); (case h => omega))
 | ((with_reducible apply OpR.sub); (case hx => exact rfl); (case hy => exact rfl); (case h => omega))
 | exact OpR.r fun _ => rfl))
 | fail)
    refine ⟨(i, j - i, D1, V2, V1, U ++ D2), rfl, by rw [hd2]; rfl, ⟨⟨by rw [← h1]; simp, by dsimp only; omega, by simp; omega, by dsimp only; omega, by dsimp only; omega⟩, by dsimp only; omega, by dsimp only; omega⟩, by dsimp only; omega⟩
  ·
    have hk := swap_k (d := d) (d' := d') (P ++ D1) U [] V (D2 ++ R) (by rw [← hd]; simp) (by rw [← hd']; have := congrArg (fun l => P ++ (l ++ R)) h1; simpa using this) h6.symm hdl
    have hpd : (P ++ D1).length = P.length + D1.length := by simp
    have hnil : ([] : List Ev).length = 0 := rfl
    repeat' (first
 | (with_reducible apply EvK.seq)
 | ((with_reducible apply EvK.text); (try case hm => exact rfl))
 | (with_reducible apply EvK.exit)
 | (with_reducible apply thenK_n)
 | (with_reducible apply thenK_e)
 | (with_reducible apply blockK_h)
 | ((with_reducible apply EvK.cond_f); (case hc => exact rfl))
 | ((with_reducible apply EvO.spn_f); (case hp => first | assumption | omega))
 | (with_reducible apply EvO.nilT)
 | (with_reducible apply EvO.nil)
 | ((with_reducible apply EvO.u0); (case hx => first
 | ((with_reducible apply OpR.mv); (conv => lhs; whnf); try exact rfl)
 | ((with_reducible apply OpR.callQ [0]); (case hdr => exact rfl); (case hcal => exact rfl); (case hav => exact rfl); (case hx => exact rfl); (case hh => exact rfl); (case hs0 => kernel_rfl); (case hf => kernel_rfl); (case hg => exact rfl); (case hc => kernel_rfl); (case hm => exact rfl); (case hb => exact rfl); (case hcl => exact (hk _ _ _ (by omega) (by omega) (by omega))); (case hk => exact rfl); (case hv => (conv => lhs; whnf); try exact rfl); (case hl => (repeat' (first | exact LEq.nil | ((first | with_reducible apply LEq.cons | apply LEq.cons); (case h => (conv => lhs; whnf); try exact rfl))))); (case hq => exact rfl))
 | ((with_reducible apply OpR.sub); (case hx => exact rfl); (case hy => exact rfl); (case h => omega))
 | exact OpR.r fun _ => rfl))
 | fail)
    exact ⟨.inl rfl, rfl⟩
  ·
    obtain ⟨U1, U2, rfl, hU1⟩ : ∃ U1 U2, U = U1 ++ U2 ∧ U1.length = V.length := ⟨U.take V.length, U.drop V.length, by simp, by simp; omega⟩
    obtain ⟨d2, hd2⟩ : ∃ d2, P ++ ((D1 ++ V) ++ (U2 ++ (U1 ++ (D2 ++ R)))) = d2 := ⟨_, rfl⟩
    have hvl : (U1 ++ U2).length = U1.length + U2.length := by simp
    have hk := swap_k (d := d) (d' := d2) (P ++ D1) U1 U2 V (D2 ++ R) (by rw [← hd]; simp) (by rw [← hd2]; simp) hU1.symm hdl
    have hpd : (P ++ D1).length = P.length + D1.length := by simp
    repeat' (first
 | (with_reducible apply EvK.seq)
 | (with_reducible apply EvK.block)
 | ((with_reducible apply EvK.text); (try case hm => exact rfl))
 | (with_reducible apply EvK.skip)
 | (with_reducible apply thenK_n)
 | ((with_reducible apply EvK.cond_t); (case hc => exact rfl))
 | ((with_reducible apply EvO.spd_t); (case hp => first | assumption | omega))
 | ((with_reducible apply EvO.spn_t); (case hp => first | assumption | omega))
 | (with_reducible apply EvO.nilT)
 | (with_reducible apply EvO.nilB)
 | ((with_reducible apply EvO.u0); (case hx => first
 | ((with_reducible apply OpR.mv); (conv => lhs; whnf); try exact rfl)
 | ((with_reducible apply OpR.asg); (conv => lhs; whnf); try exact rfl)
 | ((with_reducible apply OpR.callQ [0]); (case hdr => exact rfl); (case hcal => exact rfl); (case hav => exact rfl); (case hx => exact rfl); (case hh => exact rfl); (case hs0 => kernel_rfl); (case hf => kernel_rfl); (case hg => exact rfl); (case hc => kernel_rfl); (case hm => exact rfl); (case hb => exact rfl); (case hcl => exact (hk _ _ _ (by omega) (by omega) (by omega))); (case hk => exact rfl); (case hv => (conv => lhs; whnf); try exact rfl); (case hl => (repeat' (first | exact LEq.nil | ((first | with_reducible apply LEq.cons | apply LEq.cons); (case h => (conv => lhs; whnf); try exact rfl))))); (case hq => exact rfl))
 | ((with_reducible apply OpR.sub); (case hx => exact rfl); (case hy => exact rfl); (case h => omega))
 | exact OpR.r fun _ => rfl))
 | fail)
    refine ⟨(i - j, j, D1 ++ V, U2, U1, D2), rfl, by rw [hd2]; rfl, ⟨⟨by rw [← h1]; simp, by simp; omega, by dsimp only; omega, by dsimp only; omega, by dsimp only; omega⟩, by dsimp only; omega, by dsimp only; omega⟩, by dsimp only; omega⟩
end Go.Proofs.YtgbfedgghjcdcaaGreatDoor

namespace Go.Proofs.YtgbfedgghjcdcaaGreatDoor
set_option linter.unusedSimpArgs false
set_option linter.unusedVariables false
set_option linter.unusedSectionVars false
open Go.RowKit
set_option maxRecDepth 100000
set_option maxHeartbeats 16000000

theorem isort_take {X : List Ev} {k : Nat} {x : Ev} (h : X[k]? = some x) : isort ltE (X.take (k + 1)) = mrg ltE (isort ltE (X.take k)) [x] := by
  rw [take_succ' h, isort_snoc]; rfl
theorem ins_c {P X R : List Ev} {d d' : List Ev} (hd : d = P ++ (X ++ R)) (hd' : P ++ (isort ltE X ++ R) = d') (hl : d.length ≤ 1000) (a b : Int) (ha : a = P.length) (hb : b = P.length + X.length) :
    Cl cfg 169 [.ls 0, .t (.int .i64 a), .t (.int .i64 b), cF] [.row false false 13 (evsE d)] (.tup []) [.row false false 13 (evsE d')] := by
  have hlen : P.length + (X.length + R.length) ≤ 1000 := by rw [hd] at hl; simpa using hl
  have hstart : d = P ++ (isort ltE (X.take 1) ++ (X.drop 1 ++ R)) := by
    rw [hd]
    cases X with
    | nil => rfl
    | cons x X =>
      have : isort ltE [x] = [x] := by unfold isort insR; rw [List.foldl_cons, List.foldl_nil, mrg_nil_l]
      show _ = P ++ (isort ltE [x] ++ (X ++ R))
      rw [this]; rfl
  refine Cl.of_body rfl Tryz.func169 rfl rfl rfl ?_
  repeat' (first
 | (with_reducible apply EvK.seq)
 | (with_reducible apply EvK.block)
 | ((with_reducible apply EvK.text); (try case hm => exact rfl))
 | (with_reducible apply EvO.nilT)
 | ((with_reducible apply EvO.u0); (case hx => first
 | ((with_reducible apply OpR.mv); (conv => lhs; whnf); try exact rfl)
 | ((with_reducible apply OpR.asg); (conv => lhs; whnf); try exact rfl)
 | ((with_reducible apply OpR.add); (case hx => exact rfl); (case hy => exact rfl); (case h => omega))))
 | fail)
  apply EvK.loopV
  case ho => exact rfl
  case hp => exact rfl
  case hl => exact rfl
  case hs => repeat' (first | exact Slots.nil | (apply Slots.cons; (case hv => (conv => lhs; whnf); try exact rfl)))
  refine EvL.indF (fun s : Int × Nat => [(8, .t (.int .i64 s.1))]) (fun s => [.row false false 13 (evsE (P ++ (isort ltE (X.take s.2) ++ (X.drop s.2 ++ R))))]) (fun s => s.1 = a + s.2 ∧ 1 ≤ s.2 ∧ (s.2 ≤ X.length ∨ s.2 = 1)) (fun s => X.length - s.2) (a + 1, 1) rfl (by rw [hstart]) ⟨by simp, by simp, .inr rfl⟩ (fun s hs => ?_)
  obtain ⟨i, k⟩ := s
  dsimp only at hs ⊢
  obtain ⟨h1, h2, h3⟩ := hs
  rcases Nat.lt_or_ge k X.length with h4 | h4
  ·
    obtain ⟨x, hx⟩ := get_of_lt h4
    have hit := isort_take hx
    have hsl := isort_len (lt := ltE) k (X.take k) (by simp; omega)
    have hss := isort_srt ltE_ord _ (X.take k) rfl
    obtain ⟨S, hS⟩ : ∃ S, isort ltE (X.take k) = S := ⟨_, rfl⟩
    obtain ⟨T, hT⟩ : ∃ T, X.drop (k + 1) ++ R = T := ⟨_, rfl⟩
    have hTl : S.length + (1 + T.length) = X.length + R.length := by rw [← hT, ← hS, hsl]; simp; omega
    have hdr : X.drop k ++ R = x :: T := by rw [drop_get hx, ← hT]; rfl
    rw [hS] at hit hsl hss ⊢
    rw [hdr]
    have hst : P ++ (S ++ x :: T) = P ++ ((S.take k ++ x :: S.drop k) ++ T) := by rw [List.take_of_length_le (by omega), List.drop_eq_nil_of_le (by omega)]; simp
    repeat' (first
 | (with_reducible apply EvK.seq)
 | (with_reducible apply EvK.block)
 | ((with_reducible apply EvK.text); (try case hm => exact rfl))
 | (with_reducible apply EvK.skip)
 | (with_reducible apply thenK_n)
 | ((with_reducible apply EvK.cond_t); (case hc => exact rfl))
 | ((with_reducible apply EvO.spd_t); (case hp => first | assumption | omega))
 | (with_reducible apply EvO.nilT)
 | ((with_reducible apply EvO.u0); (case hx => first
 | ((with_reducible apply OpR.mv); (conv => lhs; whnf); try exact rfl)
 | ((with_reducible apply OpR.asg); (conv => lhs; whnf); try exact rfl)
 | exact OpR.r fun _ => rfl))
 | fail)
    apply EvK.loopV
    case ho => exact rfl
    case hp => exact rfl
    case hl => exact rfl
    case hs => repeat' (first | exact Slots.nil | (apply Slots.cons; (case hv => (conv => lhs; whnf); try exact rfl)))
    refine EvL.indF (fun s : Int × Nat => [(9, .t (.int .i64 s.1))]) (fun s => [.row false false 13 (evsE (P ++ ((S.take s.2 ++ x :: S.drop s.2) ++ T)))]) (fun s => s.1 = a + s.2 ∧ s.2 ≤ k ∧ ∀ y, S[s.2]? = some y → ltE x y = true) (fun s => s.2) (i, k) rfl (by rw [hst]) ⟨h1, by simp, fun y hy => by have := lt_of_get hy; dsimp only at this; omega⟩ (fun s hs => ?_)
    obtain ⟨j, q⟩ := s
    dsimp only at hs ⊢
    obtain ⟨g1, g2, g3⟩ := hs
    obtain ⟨d, hd1⟩ : ∃ d, P ++ ((S.take q ++ x :: S.drop q) ++ T) = d := ⟨_, rfl⟩
    have hlq : (S.take q).length = q := by simp; omega
    have hdl : d.length = P.length + (X.length + R.length) := by rw [← hd1]; simp [hlq]; omega
    have hld := evsE_len d
    have hfin : (0 < q → ∀ y, S[q - 1]? = some y → ltE x y = false) → isort ltE (X.take (k + 1)) ++ T = (S.take q ++ x :: S.drop q) ++ T := fun h => by
      rw [hit, insR_one_at ltE_ord hss (by omega) (fun y h0 hy => h h0 y hy) g3]
    rw [hd1]
    cases q with
    | zero =>
      have hf := hfin (fun h => by omega)
      repeat' (first
 | (with_reducible apply EvK.seq)
 | ((with_reducible apply EvK.text); (try case hm => exact rfl))
 | ((with_reducible apply EvK.drawn); (case hm => exact rfl))
 | (with_reducible apply EvK.exit)
 | (with_reducible apply thenK_n)
 | (with_reducible apply thenK_e)
 | (with_reducible apply blockK_n)
 | (with_reducible apply blockK_h)
 | ((with_reducible apply EvK.cond_f); (case hc => exact rfl))
 | ((with_reducible apply EvO.spd_f); (case hp => first | assumption | omega))
 | (with_reducible apply EvO.nilT)
 | ((with_reducible apply EvO.gf); (case hW => exact rfl))
 | ((with_reducible apply EvO.u0); (case hx => first
 | ((with_reducible apply OpR.mv); (conv => lhs; whnf); try exact rfl)
 | ((with_reducible apply OpR.asg); (conv => lhs; whnf); try exact rfl)
 | ((with_reducible apply OpR.pk_f); (case hc => exact rfl); (case h => (conv => lhs; whnf); try exact rfl))
 | ((with_reducible apply OpR.add); (case hx => exact rfl); (case hy => exact rfl); (case h => omega))
 | exact OpR.r fun _ => rfl))
 | fail)
      refine ⟨(i + 1, k + 1), rfl, by dsimp only; rw [← hd1, hT, hf]; rfl, ⟨by dsimp only; omega, by dsimp only; omega, by dsimp only; omega⟩, by dsimp only; omega⟩
    | succ q =>
      obtain ⟨y, hy⟩ := get_of_lt (xs := S) (k := q) (by omega)
      have e1 : d = (P ++ S.take q) ++ y :: (x :: (S.drop (q + 1) ++ T)) := by rw [← hd1, take_succ' hy]; simp
      have e2 : d = (P ++ (S.take q ++ [y])) ++ x :: (S.drop (q + 1) ++ T) := by rw [e1]; simp
      have hl1 : (S.take q).length = q := by simp; omega
      have j1 : j.toNat = (P ++ (S.take q ++ [y])).length := by simp [hl1]; omega
      have j2 : (j - 1).toNat = (P ++ S.take q).length := by simp [hl1]; omega
      have c1 : (evsE d)[j.toNat]? = some (evCs x) := evs_get (by rw [e2]; exact get_at _ _ _ j1)
      have c2 : (evsE d)[(j - 1).toNat]? = some (evCs y) := evs_get (by rw [e1]; exact get_at _ _ _ j2)
      have kc := cmpE_c x y
      have hlt := cmpE_lt x y
      obtain ⟨c, hc⟩ : ∃ c, cmpE x y = c := ⟨_, rfl⟩
      rw [hc] at kc hlt
      by_cases hxy : ltE x y = true
      ·
        have hc0 : c < 0 := hlt.2 hxy
        obtain ⟨d1, hdd1⟩ : ∃ d1, d.set j.toNat y = d1 := ⟨_, rfl⟩
        have e3 : d1 = (P ++ S.take q) ++ y :: (y :: (S.drop (q + 1) ++ T)) := by rw [← hdd1, e2, set_at _ _ _ _ j1]; simp
        obtain ⟨d2, hdd2⟩ : ∃ d2, P ++ ((S.take q ++ x :: S.drop q) ++ T) = d2 := ⟨_, rfl⟩
        have e4 : d1.set (j - 1).toNat x = d2 := by rw [e3, set_at _ _ _ _ j2, ← hdd2, drop_get hy]; simp
        have c3 : (evsE d1)[(j - 1).toNat]? = some (evCs y) := evs_get (by rw [e3]; exact get_at _ _ _ j2)
        have t1 : (evsE d).set j.toNat (evCs y) = evsE d1 := by rw [evs_set, hdd1]
        have t2 : (evsE d1).set (j - 1).toNat (evCs x) = evsE d2 := by rw [evs_set, e4]
        have hld1 : (evsE d1).length = d.length := by rw [evsE_len, ← hdd1]; simp
        repeat' (first
 | (with_reducible apply EvK.seq)
 | (with_reducible apply EvK.block)
 | ((with_reducible apply EvK.text); (try case hm => exact rfl))
 | ((with_reducible apply EvK.drawn); (case hm => exact rfl))
 | ((with_reducible apply EvK.drawnF); (case hm => exact rfl))
 | (with_reducible apply EvK.skip)
 | (with_reducible apply thenK_n)
 | ((with_reducible apply EvK.cond_t); (case hc => exact rfl))
 | ((with_reducible apply EvO.spd_t); (case hp => first | assumption | omega))
 | ((with_reducible apply EvO.spd_yt); (case hp => first | assumption | omega))
 | (with_reducible apply EvO.nilT)
 | (with_reducible apply EvOF.nilB)
 | ((with_reducible apply EvOF.u); (case hfl => kernel_rfl); (case hx => first
 | ((with_reducible apply OpR.mv); (conv => lhs; whnf); try exact rfl)
 | ((with_reducible apply OpR.stq); (case hs => exact fun _ => rfl); (case ht => first | (with_reducible exact sz1) | exact rfl); (case ha => exact rfl); (case hy => exact rfl); (case hone => kernel_rfl); (case hl => exact rfl); (case hb => exact rfl); (case hk => exact c1); (case ho => exact rfl); (case hv => exact t1); (case hf => (repeat' (first | exact LEq.nil | ((first | with_reducible apply LEq.cons | apply LEq.cons); (case h => (conv => lhs; whnf); try exact rfl))))))
 | ((with_reducible apply OpR.stq); (case hs => exact fun _ => rfl); (case ht => first | (with_reducible exact sz1) | exact rfl); (case ha => exact rfl); (case hy => exact rfl); (case hone => kernel_rfl); (case hl => exact rfl); (case hb => exact rfl); (case hk => exact c3); (case ho => exact rfl); (case hv => exact t2); (case hf => (repeat' (first | exact LEq.nil | ((first | with_reducible apply LEq.cons | apply LEq.cons); (case h => (conv => lhs; whnf); try exact rfl))))))
 | ((with_reducible apply OpR.sub); (case hx => exact rfl); (case hy => exact rfl); (case h => omega))
 | ((with_reducible apply OpR.ixrm); (case he => first | (with_reducible exact el0) | (with_reducible exact el1) | (with_reducible exact el2) | (with_reducible exact el3) | (with_reducible exact el4) | (with_reducible exact el5) | (with_reducible exact el6) | (with_reducible exact el7) | exact rfl); (case hx => exact rfl); (case hi => exact rfl); (case hb => exact rfl); (case h0 => first | assumption | omega); (case hq => first | assumption | omega))
 | ((with_reducible apply OpR.lds); (case hy => exact rfl); (case ht => first | (with_reducible exact sz0) | (with_reducible exact sz1) | (with_reducible exact sz2) | (with_reducible exact sz3) | (with_reducible exact sz4) | (with_reducible exact sz5) | (with_reducible exact sz6) | (with_reducible exact sz7) | (with_reducible exact sz8) | (with_reducible exact sz9)); (case hb => exact rfl); (case hk => assumption); (case hl => kernel_rfl); (case hv => (repeat' (first | exact LEq.nil | ((first | with_reducible apply LEq.cons | apply LEq.cons); (case h => (conv => lhs; whnf); try exact rfl))))))))
 | ((with_reducible apply EvO.gt0); (case hW => exact rfl); (case hx => first
 | ((with_reducible apply OpR.mv); (conv => lhs; whnf); try exact rfl)
 | ((with_reducible apply OpR.callF); (case hcal => exact rfl); (case hav => exact rfl); (case hx => exact rfl); (case hh => exact rfl); (case hm => exact rfl); (case hcl => exact kc); (case hr => exact rfl))
 | ((with_reducible apply OpR.sub); (case hx => exact rfl); (case hy => exact rfl); (case h => omega))
 | ((with_reducible apply OpR.ixrm); (case he => first | (with_reducible exact el0) | (with_reducible exact el1) | (with_reducible exact el2) | (with_reducible exact el3) | (with_reducible exact el4) | (with_reducible exact el5) | (with_reducible exact el6) | (with_reducible exact el7) | exact rfl); (case hx => exact rfl); (case hi => exact rfl); (case hb => exact rfl); (case h0 => first | assumption | omega); (case hq => first | assumption | omega))
 | ((with_reducible apply OpR.lds); (case hy => exact rfl); (case ht => first | (with_reducible exact sz0) | (with_reducible exact sz1) | (with_reducible exact sz2) | (with_reducible exact sz3) | (with_reducible exact sz4) | (with_reducible exact sz5) | (with_reducible exact sz6) | (with_reducible exact sz7) | (with_reducible exact sz8) | (with_reducible exact sz9)); (case hb => exact rfl); (case hk => assumption); (case hl => kernel_rfl); (case hv => (repeat' (first | exact LEq.nil | ((first | with_reducible apply LEq.cons | apply LEq.cons); (case h => (conv => lhs; whnf); try exact rfl))))))
 | exact OpR.r fun _ => rfl))
 | ((with_reducible apply EvO.u0); (case hx => first
 | ((with_reducible apply OpR.mv); (conv => lhs; whnf); try exact rfl)
 | ((with_reducible apply OpR.asg); (conv => lhs; whnf); try exact rfl)
 | ((with_reducible apply OpR.pk_t); (case hc => exact rfl); (case h => (conv => lhs; whnf); try exact rfl))
 | ((with_reducible apply OpR.sub); (case hx => exact rfl); (case hy => exact rfl); (case h => omega))
 | exact OpR.r fun _ => rfl))
 | fail)
        refine ⟨(j - 1, q), rfl, by dsimp only; rw [hdd2]; rfl, ⟨by dsimp only; omega, by dsimp only; omega, fun z hz => by dsimp only at hz; rw [hy] at hz; cases hz; exact hxy⟩, by dsimp only; omega⟩
      ·
        have hc0 : ¬ c < 0 := fun h => hxy (hlt.1 h)
        have hf := hfin (fun _ z hz => by rw [Nat.add_sub_cancel, hy] at hz; cases hz; simpa using hxy)
        repeat' (first
 | (with_reducible apply EvK.seq)
 | ((with_reducible apply EvK.text); (try case hm => exact rfl))
 | ((with_reducible apply EvK.drawn); (case hm => exact rfl))
 | (with_reducible apply EvK.exit)
 | (with_reducible apply thenK_n)
 | (with_reducible apply thenK_e)
 | (with_reducible apply blockK_n)
 | (with_reducible apply blockK_h)
 | ((with_reducible apply EvK.cond_f); (case hc => exact rfl))
 | ((with_reducible apply EvO.spd_t); (case hp => first | assumption | omega))
 | ((with_reducible apply EvO.spd_yf); (case hp => first | assumption | omega))
 | (with_reducible apply EvO.nilT)
 | ((with_reducible apply EvO.gt0); (case hW => exact rfl); (case hx => first
 | ((with_reducible apply OpR.mv); (conv => lhs; whnf); try exact rfl)
 | ((with_reducible apply OpR.callF); (case hcal => exact rfl); (case hav => exact rfl); (case hx => exact rfl); (case hh => exact rfl); (case hm => exact rfl); (case hcl => exact kc); (case hr => exact rfl))
 | ((with_reducible apply OpR.sub); (case hx => exact rfl); (case hy => exact rfl); (case h => omega))
 | ((with_reducible apply OpR.ixrm); (case he => first | (with_reducible exact el0) | (with_reducible exact el1) | (with_reducible exact el2) | (with_reducible exact el3) | (with_reducible exact el4) | (with_reducible exact el5) | (with_reducible exact el6) | (with_reducible exact el7) | exact rfl); (case hx => exact rfl); (case hi => exact rfl); (case hb => exact rfl); (case h0 => first | assumption | omega); (case hq => first | assumption | omega))
 | ((with_reducible apply OpR.lds); (case hy => exact rfl); (case ht => first | (with_reducible exact sz0) | (with_reducible exact sz1) | (with_reducible exact sz2) | (with_reducible exact sz3) | (with_reducible exact sz4) | (with_reducible exact sz5) | (with_reducible exact sz6) | (with_reducible exact sz7) | (with_reducible exact sz8) | (with_reducible exact sz9)); (case hb => exact rfl); (case hk => assumption); (case hl => kernel_rfl); (case hv => (repeat' (first | exact LEq.nil | ((first | with_reducible apply LEq.cons | apply LEq.cons); (case h => (conv => lhs; whnf); try exact rfl))))))
 | exact OpR.r fun _ => rfl))
 | ((with_reducible apply EvO.u0); (case hx => first
 | ((with_reducible apply OpR.mv); (conv => lhs; whnf); try exact rfl)
 | ((with_reducible apply OpR.asg); (conv => lhs; whnf); try exact rfl)
 | ((with_reducible apply OpR.pk_t); (case hc => exact rfl); (case h => (conv => lhs; whnf); try exact rfl))
 | ((with_reducible apply OpR.add); (case hx => exact rfl); (case hy => exact rfl); (case h => omega))
 | exact OpR.r fun _ => rfl))
 | fail)
        refine ⟨(i + 1, k + 1), rfl, by dsimp only; rw [← hd1, hT, hf]; rfl, ⟨by dsimp only; omega, by dsimp only; omega, by dsimp only; omega⟩, by dsimp only; omega⟩
  ·
    rw [List.take_of_length_le (by omega), List.drop_eq_nil_of_le (by omega), List.nil_append, hd']
    repeat' (first
 | (with_reducible apply EvK.seq)
 | ((with_reducible apply EvK.text); (try case hm => exact rfl))
 | (with_reducible apply EvK.exit)
 | (with_reducible apply thenK_e)
 | (with_reducible apply blockK_h)
 | ((with_reducible apply EvK.cond_f); (case hc => exact rfl))
 | ((with_reducible apply EvO.spd_f); (case hp => first | assumption | omega))
 | (with_reducible apply EvO.nilT)
 | ((with_reducible apply EvO.u0); (case hx => first
 | ((with_reducible apply OpR.mv); (conv => lhs; whnf); try exact rfl)
 | exact OpR.r fun _ => rfl))
 | fail)
    exact ⟨.inl rfl, rfl⟩
end Go.Proofs.YtgbfedgghjcdcaaGreatDoor

namespace Go.Proofs.YtgbfedgghjcdcaaGreatDoor
set_option linter.unusedSimpArgs false
set_option linter.unusedVariables false
set_option linter.unusedSectionVars false
open Go.RowKit
set_option maxRecDepth 100000
set_option maxHeartbeats 16000000

def SymOk (P A B R d d' : List Ev) : Prop := 0 < A.length → 0 < B.length → Srt ltE A → Srt ltE B → d = P ++ (A ++ (B ++ R)) → P ++ (mrg ltE A B ++ R) = d' → d.length ≤ 1000 → ∀ (a m b : Int), a = P.length → m = P.length + A.length → b = P.length + A.length + B.length →
    Cl cfg 170 [.ls 0, .t (.int .i64 a), .t (.int .i64 m), .t (.int .i64 b), cF] [.row false false 13 (evsE d)] (.tup []) [.row false false 13 (evsE d')]
theorem sym_one {P B R d d' : List Ev} {x : Ev} : SymOk P [x] B R d d' := by
  intro _ hB0 _ hBs hd hd' hl a m b ha hm hb
  have hlen : P.length + (1 + (B.length + R.length)) ≤ 1000 := by rw [hd] at hl; simp at hl; omega
  have h1 : ([x] : List Ev).length = 1 := rfl
  rw [h1] at hm hb
  have hdl : d.length = P.length + (1 + (B.length + R.length)) := by rw [hd]; simp; omega
  have hld := evsE_len d
  refine Cl.of_body rfl Tryz.func170 rfl rfl rfl ?_
  repeat' (first
 | (with_reducible apply EvK.seq)
 | (with_reducible apply EvK.block)
 | ((with_reducible apply EvK.text); (try case hm => exact rfl))
 | ((with_reducible apply EvK.cond_t); (case hc => exact rfl))
 | ((with_reducible apply EvO.spd_t); (case hp => first | assumption | omega))
 | (with_reducible apply EvO.nilT)
 | ((with_reducible apply EvO.u0); (case hx => first
 | ((with_reducible apply OpR.mv); (conv => lhs; whnf); try exact rfl)
 | ((with_reducible apply OpR.asg); (conv => lhs; whnf); try exact rfl)
 | ((with_reducible apply OpR.sub); (case hx => exact rfl); (case hy => exact rfl); (case h => omega))
 | exact OpR.r fun _ => rfl))
 | fail)
  apply EvK.loopV
  case ho => exact rfl
  case hp => exact rfl
  case hl => exact rfl
  case hs => repeat' (first | exact Slots.nil | (apply Slots.cons; (case hv => (conv => lhs; whnf); try exact rfl)))
  refine EvL.ind (fun s : Int × Int × Nat × Nat => [(10, .t (.int .i64 s.1)), (11, .t (.int .i64 s.2.1))]) (fun s => (s.1 = m + s.2.2.1 ∧ s.2.1 = m + s.2.2.2) ∧ (s.2.2.1 ≤ s.2.2.2 ∧ s.2.2.2 ≤ B.length) ∧ (∀ y, 0 < s.2.2.1 → B[s.2.2.1 - 1]? = some y → ltE y x = true) ∧ ∀ y, B[s.2.2.2]? = some y → ltE y x = false) (fun s => s.2.2.2 - s.2.2.1) (m, b, 0, B.length) rfl ⟨⟨by dsimp only; omega, by dsimp only; omega⟩, ⟨by dsimp only; omega, by dsimp only; omega⟩, fun y h => by dsimp only at h; omega, fun y h => by have := lt_of_get h; dsimp only at this; omega⟩ (fun s hs => ?_)
  obtain ⟨i, j, i', j'⟩ := s
  dsimp only at hs ⊢
  obtain ⟨⟨hi, hj⟩, ⟨hij, hjB⟩, f1, f2⟩ := hs
  rcases Nat.lt_or_ge i' j' with h3 | h3
  ·
    obtain ⟨h', hh'⟩ : ∃ h' : Nat, (i + j) / 2 = m + h' := ⟨((i + j) / 2 - m).toNat, by omega⟩
    obtain ⟨z, hz⟩ := get_of_lt (xs := B) (k := h') (by omega)
    have e1 : d = (P ++ (x :: B.take h')) ++ z :: (B.drop (h' + 1) ++ R) := by rw [hd]; conv => lhs; rw [← List.take_append_drop h' B, drop_get hz]
                                                                               simp
    have e0 : d = P ++ x :: (B ++ R) := by rw [hd]; rfl
    have c1 : (evsE d)[((i + j) / 2).toNat]? = some (evCs z) := evs_get (by rw [e1]; exact get_at _ _ _ (by simp; omega))
    have c2 : (evsE d)[a.toNat]? = some (evCs x) := evs_get (by rw [e0]; exact get_at _ _ _ (by omega))
    have kc := cmpE_c z x
    have hlt := cmpE_lt z x
    obtain ⟨c, hc⟩ : ∃ c, cmpE z x = c := ⟨_, rfl⟩
    rw [hc] at kc hlt
    by_cases hzx : ltE z x = true
    ·
      have hc0 : c < 0 := hlt.2 hzx
      repeat' (first
 | (with_reducible apply EvK.seq)
 | (with_reducible apply EvK.block)
 | ((with_reducible apply EvK.text); (try case hm => exact rfl))
 | ((with_reducible apply EvK.drawn); (case hm => exact rfl))
 | (with_reducible apply EvK.skip)
 | (with_reducible apply thenK_n)
 | ((with_reducible apply EvK.cond_t); (case hc => exact rfl))
 | ((with_reducible apply EvO.spd_t); (case hp => first | assumption | omega))
 | (with_reducible apply EvO.nilT)
 | (with_reducible apply EvO.nilB)
 | ((with_reducible apply EvO.u0); (case hx => first
 | ((with_reducible apply OpR.mv); (conv => lhs; whnf); try exact rfl)
 | ((with_reducible apply OpR.asg); (conv => lhs; whnf); try exact rfl)
 | ((with_reducible apply OpR.shr1); (case hx => exact rfl); (case hy => exact rfl); (case hn => exact rfl); (case h => omega))
 | ((with_reducible apply OpR.cvu); (case hx => exact rfl); (case hs => exact rfl); (case hd => exact rfl); (case h => omega))
 | ((with_reducible apply OpR.cvi); (case hx => exact rfl); (case hs => exact rfl); (case hd => exact rfl); (case h => omega))
 | ((with_reducible apply OpR.callF); (case hcal => exact rfl); (case hav => exact rfl); (case hx => exact rfl); (case hh => exact rfl); (case hm => exact rfl); (case hcl => exact kc); (case hr => exact rfl))
 | ((with_reducible apply OpR.add); (case hx => exact rfl); (case hy => exact rfl); (case h => omega))
 | ((with_reducible apply OpR.ixrm); (case he => first | (with_reducible exact el0) | (with_reducible exact el1) | (with_reducible exact el2) | (with_reducible exact el3) | (with_reducible exact el4) | (with_reducible exact el5) | (with_reducible exact el6) | (with_reducible exact el7) | exact rfl); (case hx => exact rfl); (case hi => exact rfl); (case hb => exact rfl); (case h0 => first | assumption | omega); (case hq => first | assumption | omega))
 | ((with_reducible apply OpR.lds); (case hy => exact rfl); (case ht => first | (with_reducible exact sz0) | (with_reducible exact sz1) | (with_reducible exact sz2) | (with_reducible exact sz3) | (with_reducible exact sz4) | (with_reducible exact sz5) | (with_reducible exact sz6) | (with_reducible exact sz7) | (with_reducible exact sz8) | (with_reducible exact sz9)); (case hb => exact rfl); (case hk => assumption); (case hl => kernel_rfl); (case hv => (repeat' (first | exact LEq.nil | ((first | with_reducible apply LEq.cons | apply LEq.cons); (case h => (conv => lhs; whnf); try exact rfl))))))
 | exact OpR.r fun _ => rfl))
 | fail)
      refine ⟨((i + j) / 2 + 1, j, h' + 1, j'), rfl, rfl, ⟨⟨by dsimp only; omega, by dsimp only; omega⟩, ⟨by dsimp only; omega, by dsimp only; omega⟩, fun y _ hy => by dsimp only at hy; rw [Nat.add_sub_cancel, hz] at hy; cases hy; exact hzx, f2⟩, by dsimp only; omega⟩
    ·
      have hc0 : ¬ c < 0 := fun h => hzx (hlt.1 h)
      repeat' (first
 | (with_reducible apply EvK.seq)
 | (with_reducible apply EvK.block)
 | ((with_reducible apply EvK.text); (try case hm => exact rfl))
 | ((with_reducible apply EvK.drawn); (case hm => exact rfl))
 | (with_reducible apply EvK.skip)
 | (with_reducible apply thenK_n)
 | ((with_reducible apply EvK.cond_t); (case hc => exact rfl))
 | ((with_reducible apply EvK.cond_f); (case hc => exact rfl))
 | ((with_reducible apply EvO.spd_t); (case hp => first | assumption | omega))
 | ((with_reducible apply EvO.spd_f); (case hp => first | assumption | omega))
 | (with_reducible apply EvO.nilT)
 | (with_reducible apply EvO.nilB)
 | ((with_reducible apply EvO.u0); (case hx => first
 | ((with_reducible apply OpR.mv); (conv => lhs; whnf); try exact rfl)
 | ((with_reducible apply OpR.asg); (conv => lhs; whnf); try exact rfl)
 | ((with_reducible apply OpR.shr1); (case hx => exact rfl); (case hy => exact rfl); (case hn => exact rfl); (case h => omega))
 | ((with_reducible apply OpR.cvu); (case hx => exact rfl); (case hs => exact rfl); (case hd => exact rfl); (case h => omega))
 | ((with_reducible apply OpR.cvi); (case hx => exact rfl); (case hs => exact rfl); (case hd => exact rfl); (case h => omega))
 | ((with_reducible apply OpR.callF); (case hcal => exact rfl); (case hav => exact rfl); (case hx => exact rfl); (case hh => exact rfl); (case hm => exact rfl); (case hcl => exact kc); (case hr => exact rfl))
 | ((with_reducible apply OpR.add); (case hx => exact rfl); (case hy => exact rfl); (case h => omega))
 | ((with_reducible apply OpR.ixrm); (case he => first | (with_reducible exact el0) | (with_reducible exact el1) | (with_reducible exact el2) | (with_reducible exact el3) | (with_reducible exact el4) | (with_reducible exact el5) | (with_reducible exact el6) | (with_reducible exact el7) | exact rfl); (case hx => exact rfl); (case hi => exact rfl); (case hb => exact rfl); (case h0 => first | assumption | omega); (case hq => first | assumption | omega))
 | ((with_reducible apply OpR.lds); (case hy => exact rfl); (case ht => first | (with_reducible exact sz0) | (with_reducible exact sz1) | (with_reducible exact sz2) | (with_reducible exact sz3) | (with_reducible exact sz4) | (with_reducible exact sz5) | (with_reducible exact sz6) | (with_reducible exact sz7) | (with_reducible exact sz8) | (with_reducible exact sz9)); (case hb => exact rfl); (case hk => assumption); (case hl => kernel_rfl); (case hv => (repeat' (first | exact LEq.nil | ((first | with_reducible apply LEq.cons | apply LEq.cons); (case h => (conv => lhs; whnf); try exact rfl))))))
 | exact OpR.r fun _ => rfl))
 | fail)
      refine ⟨(i, (i + j) / 2, i', h'), rfl, rfl, ⟨⟨by dsimp only; omega, by dsimp only; omega⟩, ⟨by dsimp only; omega, by dsimp only; omega⟩, f1, fun y hy => by dsimp only at hy; rw [hz] at hy; cases hy; simpa using hzx⟩, by dsimp only; omega⟩
  ·
    obtain rfl : i' = j' := by omega
    have hres := mrg_one_at ltE_ord hBs hjB (fun y h hy => f1 y h hy) f2
    repeat' (first
 | (with_reducible apply EvK.seq)
 | (with_reducible apply EvK.block)
 | ((with_reducible apply EvK.text); (try case hm => exact rfl))
 | (with_reducible apply EvK.exit)
 | (with_reducible apply thenK_n)
 | (with_reducible apply thenK_e)
 | (with_reducible apply blockK_h)
 | ((with_reducible apply EvK.cond_f); (case hc => exact rfl))
 | ((with_reducible apply EvO.spd_f); (case hp => first | assumption | omega))
 | (with_reducible apply EvO.nilT)
 | ((with_reducible apply EvO.u0); (case hx => first
 | ((with_reducible apply OpR.mv); (conv => lhs; whnf); try exact rfl)
 | ((with_reducible apply OpR.asg); (conv => lhs; whnf); try exact rfl)
 | exact OpR.r fun _ => rfl))
 | fail)
    apply EvK.loopV
    case ho => exact rfl
    case hp => exact rfl
    case hl => exact rfl
    case hs => repeat' (first | exact Slots.nil | (apply Slots.cons; (case hv => (conv => lhs; whnf); try exact rfl)))
    refine EvL.indF (fun s : Int × Nat => [(13, .t (.int .i64 s.1))]) (fun s => [.row false false 13 (evsE (P ++ ((B.take s.2 ++ x :: B.drop s.2) ++ R)))]) (fun s => s.1 = a + s.2 ∧ s.2 ≤ i') (fun s => i' - s.2) (a, 0) rfl (by rw [hd]; rfl) ⟨by simp, by simp⟩ (fun s hs => ?_)
    obtain ⟨k, p⟩ := s
    dsimp only at hs ⊢
    obtain ⟨g1, g2⟩ := hs
    rcases Nat.lt_or_ge p i' with g3 | g3
    ·
      obtain ⟨u, hu⟩ := get_of_lt (xs := B) (k := p) (by omega)
      have hlp : (B.take p).length = p := by simp; omega
      obtain ⟨d0, hd0⟩ : ∃ d0, P ++ ((B.take p ++ x :: B.drop p) ++ R) = d0 := ⟨_, rfl⟩
      have e1 : d0 = (P ++ B.take p) ++ x :: (u :: (B.drop (p + 1) ++ R)) := by rw [← hd0, drop_get hu]; simp
      have e2 : d0 = (P ++ (B.take p ++ [x])) ++ u :: (B.drop (p + 1) ++ R) := by rw [e1]; simp
      have j1 : k.toNat = (P ++ B.take p).length := by simp [hlp]; omega
      have j2 : (k + 1).toNat = (P ++ (B.take p ++ [x])).length := by simp [hlp]; omega
      have c1 : (evsE d0)[k.toNat]? = some (evCs x) := evs_get (by rw [e1]; exact get_at _ _ _ j1)
      have c2 : (evsE d0)[(k + 1).toNat]? = some (evCs u) := evs_get (by rw [e2]; exact get_at _ _ _ j2)
      obtain ⟨d1, hd1⟩ : ∃ d1, d0.set k.toNat u = d1 := ⟨_, rfl⟩
      have e3 : d1 = (P ++ (B.take p ++ [u])) ++ u :: (B.drop (p + 1) ++ R) := by rw [← hd1, e1, set_at _ _ _ _ j1]; simp
      have j3 : (k + 1).toNat = (P ++ (B.take p ++ [u])).length := by simp [hlp]; omega
      obtain ⟨d2, hd2⟩ : ∃ d2, P ++ ((B.take (p + 1) ++ x :: B.drop (p + 1)) ++ R) = d2 := ⟨_, rfl⟩
      have e4 : d1.set (k + 1).toNat x = d2 := by rw [e3, set_at _ _ _ _ j3, ← hd2, take_succ' hu]; simp
      have c3 : (evsE d1)[(k + 1).toNat]? = some (evCs u) := evs_get (by rw [e3]; exact get_at _ _ _ j3)
      have t1 : (evsE d0).set k.toNat (evCs u) = evsE d1 := by rw [evs_set, hd1]
      have t2 : (evsE d1).set (k + 1).toNat (evCs x) = evsE d2 := by rw [evs_set, e4]
      have hld0 := evsE_len d0
      have hdl0 : d0.length = d.length := by rw [← hd0, hdl]; simp [hlp]; omega
      have hld1 : (evsE d1).length = d.length := by rw [evsE_len, ← hd1]; simp [hdl0]
      rw [hd0]
      repeat' (first
 | (with_reducible apply EvK.seq)
 | (with_reducible apply EvK.block)
 | ((with_reducible apply EvK.text); (try case hm => exact rfl))
 | ((with_reducible apply EvK.drawnF); (case hm => exact rfl))
 | (with_reducible apply EvK.skip)
 | (with_reducible apply thenK_n)
 | ((with_reducible apply EvK.cond_t); (case hc => exact rfl))
 | ((with_reducible apply EvO.spd_t); (case hp => first | assumption | omega))
 | (with_reducible apply EvO.nilT)
 | (with_reducible apply EvOF.nilB)
 | ((with_reducible apply EvOF.u); (case hfl => kernel_rfl); (case hx => first
 | ((with_reducible apply OpR.mv); (conv => lhs; whnf); try exact rfl)
 | ((with_reducible apply OpR.stq); (case hs => exact fun _ => rfl); (case ht => first | (with_reducible exact sz1) | exact rfl); (case ha => exact rfl); (case hy => exact rfl); (case hone => kernel_rfl); (case hl => exact rfl); (case hb => exact rfl); (case hk => exact c1); (case ho => exact rfl); (case hv => exact t1); (case hf => (repeat' (first | exact LEq.nil | ((first | with_reducible apply LEq.cons | apply LEq.cons); (case h => (conv => lhs; whnf); try exact rfl))))))
 | ((with_reducible apply OpR.stq); (case hs => exact fun _ => rfl); (case ht => first | (with_reducible exact sz1) | exact rfl); (case ha => exact rfl); (case hy => exact rfl); (case hone => kernel_rfl); (case hl => exact rfl); (case hb => exact rfl); (case hk => exact c3); (case ho => exact rfl); (case hv => exact t2); (case hf => (repeat' (first | exact LEq.nil | ((first | with_reducible apply LEq.cons | apply LEq.cons); (case h => (conv => lhs; whnf); try exact rfl))))))
 | ((with_reducible apply OpR.add); (case hx => exact rfl); (case hy => exact rfl); (case h => omega))
 | ((with_reducible apply OpR.ixrm); (case he => first | (with_reducible exact el0) | (with_reducible exact el1) | (with_reducible exact el2) | (with_reducible exact el3) | (with_reducible exact el4) | (with_reducible exact el5) | (with_reducible exact el6) | (with_reducible exact el7) | exact rfl); (case hx => exact rfl); (case hi => exact rfl); (case hb => exact rfl); (case h0 => first | assumption | omega); (case hq => first | assumption | omega))
 | ((with_reducible apply OpR.lds); (case hy => exact rfl); (case ht => first | (with_reducible exact sz0) | (with_reducible exact sz1) | (with_reducible exact sz2) | (with_reducible exact sz3) | (with_reducible exact sz4) | (with_reducible exact sz5) | (with_reducible exact sz6) | (with_reducible exact sz7) | (with_reducible exact sz8) | (with_reducible exact sz9)); (case hb => exact rfl); (case hk => assumption); (case hl => kernel_rfl); (case hv => (repeat' (first | exact LEq.nil | ((first | with_reducible apply LEq.cons | apply LEq.cons); (case h => (conv => lhs; whnf); try exact rfl))))))))
 | ((with_reducible apply EvO.u0); (case hx => first
 | ((with_reducible apply OpR.mv); (conv => lhs; whnf); try exact rfl)
 | ((with_reducible apply OpR.asg); (conv => lhs; whnf); try exact rfl)
 | ((with_reducible apply OpR.add); (case hx => exact rfl); (case hy => exact rfl); (case h => omega))
 | ((with_reducible apply OpR.sub); (case hx => exact rfl); (case hy => exact rfl); (case h => omega))
 | exact OpR.r fun _ => rfl))
 | fail)
      refine ⟨(k + 1, p + 1), rfl, by dsimp only; rw [hd2]; rfl, ⟨by dsimp only; omega, by dsimp only; omega⟩, by dsimp only; omega⟩
    ·
      obtain rfl : p = i' := by omega
      rw [← hres, hd']
      repeat' (first
 | (with_reducible apply EvK.seq)
 | ((with_reducible apply EvK.text); (try case hm => exact rfl))
 | (with_reducible apply EvK.exit)
 | (with_reducible apply EvK.ret)
 | (with_reducible apply thenK_n)
 | (with_reducible apply thenK_e)
 | (with_reducible apply thenK_r)
 | (with_reducible apply blockK_h)
 | ((with_reducible apply EvK.cond_f); (case hc => exact rfl))
 | ((with_reducible apply EvO.spd_f); (case hp => first | assumption | omega))
 | (with_reducible apply EvO.nilT)
 | ((with_reducible apply EvO.u0); (case hx => first
 | ((with_reducible apply OpR.mv); (conv => lhs; whnf); try exact rfl)
 | ((with_reducible apply OpR.sub); (case hx => exact rfl); (case hy => exact rfl); (case h => omega))
 | exact OpR.r fun _ => rfl))
 | fail)
      exact ⟨.inr rfl, rfl⟩
end Go.Proofs.YtgbfedgghjcdcaaGreatDoor

namespace Go.Proofs.YtgbfedgghjcdcaaGreatDoor
set_option linter.unusedSimpArgs false
set_option linter.unusedVariables false
set_option linter.unusedSectionVars false
open Go.RowKit
set_option maxRecDepth 100000
set_option maxHeartbeats 32000000

theorem sym_last {P A R d d' : List Ev} {y : Ev} (hA1 : A.length ≠ 1) : SymOk P A [y] R d d' := by
  intro hA0 _ hAs _ hd hd' hl a m b ha hm hb
  have hlen : P.length + (A.length + (1 + R.length)) ≤ 1000 := by rw [hd] at hl; simp at hl; omega
  have h1 : ([y] : List Ev).length = 1 := rfl
  rw [h1] at hb
  have hdl : d.length = P.length + (A.length + (1 + R.length)) := by rw [hd]; simp; omega
  have hld := evsE_len d
  refine Cl.of_body rfl Tryz.func170 rfl rfl rfl ?_
  repeat' (first
 | (with_reducible apply EvK.seq)
 | (with_reducible apply EvK.block)
 | ((with_reducible apply EvK.text); (try case hm => exact rfl))
 | (with_reducible apply EvK.skip)
 | (with_reducible apply thenK_n)
 | ((with_reducible apply EvK.cond_t); (case hc => exact rfl))
 | ((with_reducible apply EvK.cond_f); (case hc => exact rfl))
 | ((with_reducible apply EvO.spd_t); (case hp => first | assumption | omega))
 | ((with_reducible apply EvO.spd_f); (case hp => first | assumption | omega))
 | (with_reducible apply EvO.nilT)
 | ((with_reducible apply EvO.u0); (case hx => first
 | ((with_reducible apply OpR.mv); (conv => lhs; whnf); try exact rfl)
 | ((with_reducible apply OpR.asg); (conv => lhs; whnf); try exact rfl)
 | ((with_reducible apply OpR.sub); (case hx => exact rfl); (case hy => exact rfl); (case h => omega))
 | exact OpR.r fun _ => rfl))
 | fail)
  apply EvK.loopV
  case ho => exact rfl
  case hp => exact rfl
  case hl => exact rfl
  case hs => repeat' (first | exact Slots.nil | (apply Slots.cons; (case hv => (conv => lhs; whnf); try exact rfl)))
  refine EvL.ind (fun s : Int × Int × Nat × Nat => [(14, .t (.int .i64 s.1)), (15, .t (.int .i64 s.2.1))]) (fun s => (s.1 = a + s.2.2.1 ∧ s.2.1 = a + s.2.2.2) ∧ (s.2.2.1 ≤ s.2.2.2 ∧ s.2.2.2 ≤ A.length) ∧ (∀ x, 0 < s.2.2.1 → A[s.2.2.1 - 1]? = some x → ltE y x = false) ∧ ∀ x, A[s.2.2.2]? = some x → ltE y x = true) (fun s => s.2.2.2 - s.2.2.1) (a, m, 0, A.length) rfl ⟨⟨by dsimp only; omega, by dsimp only; omega⟩, ⟨by dsimp only; omega, by dsimp only; omega⟩, fun y h => by dsimp only at h; omega, fun y h => by have := lt_of_get h; dsimp only at this; omega⟩ (fun s hs => ?_)
  obtain ⟨i, j, i', j'⟩ := s
  dsimp only at hs ⊢
  obtain ⟨⟨hi, hj⟩, ⟨hij, hjA⟩, f1, f2⟩ := hs
  rcases Nat.lt_or_ge i' j' with h3 | h3
  ·
    obtain ⟨h', hh'⟩ : ∃ h' : Nat, (i + j) / 2 = a + h' := ⟨((i + j) / 2 - a).toNat, by omega⟩
    obtain ⟨z, hz⟩ := get_of_lt (xs := A) (k := h') (by omega)
    have hlz : (A.take h').length = h' := by simp; omega
    have e1 : d = (P ++ A.take h') ++ z :: (A.drop (h' + 1) ++ y :: R) := by rw [hd]; conv => lhs; rw [← List.take_append_drop h' A, drop_get hz]
                                                                             simp
    have e0 : d = (P ++ A) ++ y :: R := by rw [hd]; simp
    have c1 : (evsE d)[((i + j) / 2).toNat]? = some (evCs z) := evs_get (by rw [e1]; exact get_at _ _ _ (by simp [hlz]; omega))
    have c2 : (evsE d)[m.toNat]? = some (evCs y) := evs_get (by rw [e0]; exact get_at _ _ _ (by simp; omega))
    have kc := cmpE_c y z
    have hlt := cmpE_lt y z
    obtain ⟨c, hc⟩ : ∃ c, cmpE y z = c := ⟨_, rfl⟩
    rw [hc] at kc hlt
    by_cases hyz : ltE y z = true
    ·
      have hc0 : c < 0 := hlt.2 hyz
      repeat' (first
 | (with_reducible apply EvK.seq)
 | (with_reducible apply EvK.block)
 | ((with_reducible apply EvK.text); (try case hm => exact rfl))
 | ((with_reducible apply EvK.drawn); (case hm => exact rfl))
 | (with_reducible apply EvK.skip)
 | (with_reducible apply thenK_n)
 | ((with_reducible apply EvK.cond_t); (case hc => exact rfl))
 | ((with_reducible apply EvK.cond_f); (case hc => exact rfl))
 | ((with_reducible apply EvO.spd_t); (case hp => first | assumption | omega))
 | (with_reducible apply EvO.nilT)
 | (with_reducible apply EvO.nilB)
 | ((with_reducible apply EvO.u0); (case hx => first
 | ((with_reducible apply OpR.mv); (conv => lhs; whnf); try exact rfl)
 | ((with_reducible apply OpR.asg); (conv => lhs; whnf); try exact rfl)
 | ((with_reducible apply OpR.shr1); (case hx => exact rfl); (case hy => exact rfl); (case hn => exact rfl); (case h => omega))
 | ((with_reducible apply OpR.cvu); (case hx => exact rfl); (case hs => exact rfl); (case hd => exact rfl); (case h => omega))
 | ((with_reducible apply OpR.cvi); (case hx => exact rfl); (case hs => exact rfl); (case hd => exact rfl); (case h => omega))
 | ((with_reducible apply OpR.callF); (case hcal => exact rfl); (case hav => exact rfl); (case hx => exact rfl); (case hh => exact rfl); (case hm => exact rfl); (case hcl => exact kc); (case hr => exact rfl))
 | ((with_reducible apply OpR.add); (case hx => exact rfl); (case hy => exact rfl); (case h => omega))
 | ((with_reducible apply OpR.ixrm); (case he => first | (with_reducible exact el0) | (with_reducible exact el1) | (with_reducible exact el2) | (with_reducible exact el3) | (with_reducible exact el4) | (with_reducible exact el5) | (with_reducible exact el6) | (with_reducible exact el7) | exact rfl); (case hx => exact rfl); (case hi => exact rfl); (case hb => exact rfl); (case h0 => first | assumption | omega); (case hq => first | assumption | omega))
 | ((with_reducible apply OpR.lds); (case hy => exact rfl); (case ht => first | (with_reducible exact sz0) | (with_reducible exact sz1) | (with_reducible exact sz2) | (with_reducible exact sz3) | (with_reducible exact sz4) | (with_reducible exact sz5) | (with_reducible exact sz6) | (with_reducible exact sz7) | (with_reducible exact sz8) | (with_reducible exact sz9)); (case hb => exact rfl); (case hk => assumption); (case hl => kernel_rfl); (case hv => (repeat' (first | exact LEq.nil | ((first | with_reducible apply LEq.cons | apply LEq.cons); (case h => (conv => lhs; whnf); try exact rfl))))))
 | exact OpR.r fun _ => rfl))
 | fail)
      refine ⟨(i, (i + j) / 2, i', h'), rfl, rfl, ⟨⟨by dsimp only; omega, by dsimp only; omega⟩, ⟨by dsimp only; omega, by dsimp only; omega⟩, f1, fun x hx => by dsimp only at hx; rw [hz] at hx; cases hx; exact hyz⟩, by dsimp only; omega⟩
    ·
      have hc0 : ¬ c < 0 := fun h => hyz (hlt.1 h)
      repeat' (first
 | (with_reducible apply EvK.seq)
 | (with_reducible apply EvK.block)
 | ((with_reducible apply EvK.text); (try case hm => exact rfl))
 | ((with_reducible apply EvK.drawn); (case hm => exact rfl))
 | (with_reducible apply EvK.skip)
 | (with_reducible apply thenK_n)
 | ((with_reducible apply EvK.cond_t); (case hc => exact rfl))
 | ((with_reducible apply EvO.spd_t); (case hp => first | assumption | omega))
 | ((with_reducible apply EvO.spd_f); (case hp => first | assumption | omega))
 | (with_reducible apply EvO.nilT)
 | (with_reducible apply EvO.nilB)
 | ((with_reducible apply EvO.u0); (case hx => first
 | ((with_reducible apply OpR.mv); (conv => lhs; whnf); try exact rfl)
 | ((with_reducible apply OpR.asg); (conv => lhs; whnf); try exact rfl)
 | ((with_reducible apply OpR.shr1); (case hx => exact rfl); (case hy => exact rfl); (case hn => exact rfl); (case h => omega))
 | ((with_reducible apply OpR.cvu); (case hx => exact rfl); (case hs => exact rfl); (case hd => exact rfl); (case h => omega))
 | ((with_reducible apply OpR.cvi); (case hx => exact rfl); (case hs => exact rfl); (case hd => exact rfl); (case h => omega))
 | ((with_reducible apply OpR.callF); (case hcal => exact rfl); (case hav => exact rfl); (case hx => exact rfl); (case hh => exact rfl); (case hm => exact rfl); (case hcl => exact kc); (case hr => exact rfl))
 | ((with_reducible apply OpR.add); (case hx => exact rfl); (case hy => exact rfl); (case h => omega))
 | ((with_reducible apply OpR.ixrm); (case he => first | (with_reducible exact el0) | (with_reducible exact el1) | (with_reducible exact el2) | (with_reducible exact el3) | (with_reducible exact el4) | (with_reducible exact el5) | (with_reducible exact el6) | (with_reducible exact el7) | exact rfl); (case hx => exact rfl); (case hi => exact rfl); (case hb => exact rfl); (case h0 => first | assumption | omega); (case hq => first | assumption | omega))
 | ((with_reducible apply OpR.lds); (case hy => exact rfl); (case ht => first | (with_reducible exact sz0) | (with_reducible exact sz1) | (with_reducible exact sz2) | (with_reducible exact sz3) | (with_reducible exact sz4) | (with_reducible exact sz5) | (with_reducible exact sz6) | (with_reducible exact sz7) | (with_reducible exact sz8) | (with_reducible exact sz9)); (case hb => exact rfl); (case hk => assumption); (case hl => kernel_rfl); (case hv => (repeat' (first | exact LEq.nil | ((first | with_reducible apply LEq.cons | apply LEq.cons); (case h => (conv => lhs; whnf); try exact rfl))))))
 | exact OpR.r fun _ => rfl))
 | fail)
      refine ⟨((i + j) / 2 + 1, j, h' + 1, j'), rfl, rfl, ⟨⟨by dsimp only; omega, by dsimp only; omega⟩, ⟨by dsimp only; omega, by dsimp only; omega⟩, fun x _ hx => by dsimp only at hx; rw [Nat.add_sub_cancel, hz] at hx; cases hx; simpa using hyz, f2⟩, by dsimp only; omega⟩
  ·
    obtain rfl : i' = j' := by omega
    have hres := insR_one_at ltE_ord hAs hjA (fun x h hx => f1 x h hx) f2
    repeat' (first
 | (with_reducible apply EvK.seq)
 | (with_reducible apply EvK.block)
 | ((with_reducible apply EvK.text); (try case hm => exact rfl))
 | (with_reducible apply EvK.exit)
 | (with_reducible apply thenK_n)
 | (with_reducible apply thenK_e)
 | (with_reducible apply blockK_h)
 | ((with_reducible apply EvK.cond_f); (case hc => exact rfl))
 | ((with_reducible apply EvO.spd_f); (case hp => first | assumption | omega))
 | (with_reducible apply EvO.nilT)
 | ((with_reducible apply EvO.u0); (case hx => first
 | ((with_reducible apply OpR.mv); (conv => lhs; whnf); try exact rfl)
 | ((with_reducible apply OpR.asg); (conv => lhs; whnf); try exact rfl)
 | exact OpR.r fun _ => rfl))
 | fail)
    apply EvK.loopV
    case ho => exact rfl
    case hp => exact rfl
    case hl => exact rfl
    case hs => repeat' (first | exact Slots.nil | (apply Slots.cons; (case hv => (conv => lhs; whnf); try exact rfl)))
    refine EvL.indF (fun s : Int × Nat => [(17, .t (.int .i64 s.1))]) (fun s => [.row false false 13 (evsE (P ++ ((A.take s.2 ++ y :: A.drop s.2) ++ R)))]) (fun s => s.1 = a + s.2 ∧ i' ≤ s.2 ∧ s.2 ≤ A.length) (fun s => s.2) (m, A.length) rfl (by rw [hd]; simp) ⟨by dsimp only; omega, by dsimp only; omega, by dsimp only; omega⟩ (fun s hs => ?_)
    obtain ⟨k, p⟩ := s
    dsimp only at hs ⊢
    obtain ⟨g1, g2, g4⟩ := hs
    rcases Nat.lt_or_ge i' p with g3 | g3
    ·
      obtain ⟨p, rfl⟩ : ∃ p', p = p' + 1 := ⟨p - 1, by omega⟩
      obtain ⟨u, hu⟩ := get_of_lt (xs := A) (k := p) (by omega)
      have hlp : (A.take p).length = p := by simp; omega
      obtain ⟨d0, hd0⟩ : ∃ d0, P ++ ((A.take (p + 1) ++ y :: A.drop (p + 1)) ++ R) = d0 := ⟨_, rfl⟩
      have e1 : d0 = (P ++ A.take p) ++ u :: (y :: (A.drop (p + 1) ++ R)) := by rw [← hd0, take_succ' hu]; simp
      have e2 : d0 = (P ++ (A.take p ++ [u])) ++ y :: (A.drop (p + 1) ++ R) := by rw [e1]; simp
      have j1 : (k - 1).toNat = (P ++ A.take p).length := by simp [hlp]; omega
      have j2 : k.toNat = (P ++ (A.take p ++ [u])).length := by simp [hlp]; omega
      have c1 : (evsE d0)[(k - 1).toNat]? = some (evCs u) := evs_get (by rw [e1]; exact get_at _ _ _ j1)
      have c2 : (evsE d0)[k.toNat]? = some (evCs y) := evs_get (by rw [e2]; exact get_at _ _ _ j2)
      obtain ⟨d1, hd1⟩ : ∃ d1, d0.set k.toNat u = d1 := ⟨_, rfl⟩
      have e3 : d1 = (P ++ A.take p) ++ u :: (u :: (A.drop (p + 1) ++ R)) := by rw [← hd1, e2, set_at _ _ _ _ j2]; simp
      obtain ⟨d2, hd2⟩ : ∃ d2, P ++ ((A.take p ++ y :: A.drop p) ++ R) = d2 := ⟨_, rfl⟩
      have e4 : d1.set (k - 1).toNat y = d2 := by rw [e3, set_at _ _ _ _ j1, ← hd2, drop_get hu]; simp
      have c3 : (evsE d1)[(k - 1).toNat]? = some (evCs u) := evs_get (by rw [e3]; exact get_at _ _ _ j1)
      have t1 : (evsE d0).set k.toNat (evCs u) = evsE d1 := by rw [evs_set, hd1]
      have t2 : (evsE d1).set (k - 1).toNat (evCs y) = evsE d2 := by rw [evs_set, e4]
      have hld0 := evsE_len d0
      have hdl0 : d0.length = d.length := by rw [e1, hdl]; simp [hlp]; omega
      have hld1 : (evsE d1).length = d.length := by rw [evsE_len, ← hd1]; simp [hdl0]
      rw [hd0]
      repeat' (first
 | (with_reducible apply EvK.seq)
 | (with_reducible apply EvK.block)
 | ((with_reducible apply EvK.text); (try case hm => exact rfl))
 | ((with_reducible apply EvK.drawnF); (case hm => exact rfl))
 | (with_reducible apply EvK.skip)
 | (with_reducible apply thenK_n)
 | ((with_reducible apply EvK.cond_t); (case hc => exact rfl))
 | ((with_reducible apply EvO.spd_t); (case hp => first | assumption | omega))
 | (with_reducible apply EvO.nilT)
 | (with_reducible apply EvOF.nilB)
 | ((with_reducible apply EvOF.u); (case hfl => kernel_rfl); (case hx => first
 | ((with_reducible apply OpR.mv); (conv => lhs; whnf); try exact rfl)
 | ((with_reducible apply OpR.stq); (case hs => exact fun _ => rfl); (case ht => first | (with_reducible exact sz1) | exact rfl); (case ha => exact rfl); (case hy => exact rfl); (case hone => kernel_rfl); (case hl => exact rfl); (case hb => exact rfl); (case hk => exact c2); (case ho => exact rfl); (case hv => exact t1); (case hf => (repeat' (first | exact LEq.nil | ((first | with_reducible apply LEq.cons | apply LEq.cons); (case h => (conv => lhs; whnf); try exact rfl))))))
 | ((with_reducible apply OpR.stq); (case hs => exact fun _ => rfl); (case ht => first | (with_reducible exact sz1) | exact rfl); (case ha => exact rfl); (case hy => exact rfl); (case hone => kernel_rfl); (case hl => exact rfl); (case hb => exact rfl); (case hk => exact c3); (case ho => exact rfl); (case hv => exact t2); (case hf => (repeat' (first | exact LEq.nil | ((first | with_reducible apply LEq.cons | apply LEq.cons); (case h => (conv => lhs; whnf); try exact rfl))))))
 | ((with_reducible apply OpR.sub); (case hx => exact rfl); (case hy => exact rfl); (case h => omega))
 | ((with_reducible apply OpR.ixrm); (case he => first | (with_reducible exact el0) | (with_reducible exact el1) | (with_reducible exact el2) | (with_reducible exact el3) | (with_reducible exact el4) | (with_reducible exact el5) | (with_reducible exact el6) | (with_reducible exact el7) | exact rfl); (case hx => exact rfl); (case hi => exact rfl); (case hb => exact rfl); (case h0 => first | assumption | omega); (case hq => first | assumption | omega))
 | ((with_reducible apply OpR.lds); (case hy => exact rfl); (case ht => first | (with_reducible exact sz0) | (with_reducible exact sz1) | (with_reducible exact sz2) | (with_reducible exact sz3) | (with_reducible exact sz4) | (with_reducible exact sz5) | (with_reducible exact sz6) | (with_reducible exact sz7) | (with_reducible exact sz8) | (with_reducible exact sz9)); (case hb => exact rfl); (case hk => assumption); (case hl => kernel_rfl); (case hv => (repeat' (first | exact LEq.nil | ((first | with_reducible apply LEq.cons | apply LEq.cons); (case h => (conv => lhs; whnf); try exact rfl))))))))
 | ((with_reducible apply EvO.u0); (case hx => first
 | ((with_reducible apply OpR.mv); (conv => lhs; whnf); try exact rfl)
 | ((with_reducible apply OpR.asg); (conv => lhs; whnf); try exact rfl)
 | ((with_reducible apply OpR.sub); (case hx => exact rfl); (case hy => exact rfl); (case h => omega))
 | exact OpR.r fun _ => rfl))
 | fail)
      refine ⟨(k - 1, p), rfl, by dsimp only; rw [hd2]; rfl, ⟨by dsimp only; omega, by dsimp only; omega, by dsimp only; omega⟩, by dsimp only; omega⟩
    ·
      obtain rfl : p = i' := by omega
      rw [← hres, hd']
      repeat' (first
 | (with_reducible apply EvK.seq)
 | ((with_reducible apply EvK.text); (try case hm => exact rfl))
 | (with_reducible apply EvK.exit)
 | (with_reducible apply EvK.ret)
 | (with_reducible apply thenK_n)
 | (with_reducible apply thenK_e)
 | (with_reducible apply thenK_r)
 | (with_reducible apply blockK_h)
 | ((with_reducible apply EvK.cond_f); (case hc => exact rfl))
 | ((with_reducible apply EvO.spd_f); (case hp => first | assumption | omega))
 | (with_reducible apply EvO.nilT)
 | ((with_reducible apply EvO.u0); (case hx => first
 | ((with_reducible apply OpR.mv); (conv => lhs; whnf); try exact rfl)
 | exact OpR.r fun _ => rfl))
 | fail)
      exact ⟨.inr rfl, rfl⟩
theorem sym_big {N : Nat} (ih : ∀ {P A B R d d' : List Ev}, A.length + B.length < N → SymOk P A B R d d') {P A B R d d' : List Ev} (hN : A.length + B.length ≤ N) (hA1 : A.length ≠ 1) (hB1 : B.length ≠ 1) : SymOk P A B R d d' := by
  intro hA0 hB0 hAs hBs hd hd' hl a m b ha hm hb
  have hlen : P.length + (A.length + (B.length + R.length)) ≤ 1000 := by rw [hd] at hl; simpa using hl
  have hdl : d.length = P.length + (A.length + (B.length + R.length)) := by rw [hd]; simp
  have hld := evsE_len d
  obtain ⟨S0, R0, hsr⟩ : ∃ S0 R0 : Int, ((a + b) / 2 < m ∧ (a + b) / 2 + m - b = S0 ∧ (a + b) / 2 = R0) ∨ (¬ (a + b) / 2 < m ∧ a = S0 ∧ m = R0) := by
    by_cases h : (a + b) / 2 < m
    · exact ⟨_, _, .inl ⟨h, rfl, rfl⟩⟩
    · exact ⟨_, _, .inr ⟨h, rfl, rfl⟩⟩
  refine Cl.of_body rfl Tryz.func170 rfl rfl rfl ?_
  have hS1 : a ≤ S0 ∧ (a + b) / 2 + m - b ≤ S0 ∧ S0 ≤ R0 ∧ R0 ≤ m ∧ R0 ≤ (a + b) / 2 := by omega
  have hS2 : (S0 = a ∨ S0 = (a + b) / 2 + m - b) ∧ (R0 = m ∨ R0 = (a + b) / 2) := by omega
  rcases hsr with ⟨hmm, hS, hR⟩ | ⟨hmm, hS, hR⟩
  all_goals
    repeat' (first
 | (with_reducible apply EvK.seq)
 | (with_reducible apply EvK.block)
 | ((with_reducible apply EvK.text); (try case hm => exact rfl))
 | (with_reducible apply EvK.skip)
 | (with_reducible apply thenK_n)
 | ((with_reducible apply EvK.cond_t); (case hc => exact rfl))
 | ((with_reducible apply EvK.cond_f); (case hc => exact rfl))
 | ((with_reducible apply EvO.spd_t); (case hp => first | assumption | omega))
 | ((with_reducible apply EvO.spd_f); (case hp => first | assumption | omega))
 | (with_reducible apply EvO.nilT)
 | ((with_reducible apply EvO.u0); (case hx => first
 | ((with_reducible apply OpR.mv); (conv => lhs; whnf); try exact rfl)
 | ((with_reducible apply OpR.asg); (conv => lhs; whnf); try exact rfl)
 | ((with_reducible apply OpR.shr1); (case hx => exact rfl); (case hy => exact rfl); (case hn => exact rfl); (case h => omega))
 | ((with_reducible apply OpR.cvu); (case hx => exact rfl); (case hs => exact rfl); (case hd => exact rfl); (case h => omega))
 | ((with_reducible apply OpR.cvi); (case hx => exact rfl); (case hs => exact rfl); (case hd => exact rfl); (case h => omega))
 | ((with_reducible apply OpR.add); (case hx => exact rfl); (case hy => exact rfl); (case h => omega))
 | ((with_reducible apply OpR.sub); (case hx => exact rfl); (case hy => exact rfl); (case h => omega))
 | exact OpR.r fun _ => rfl))
 | fail)
    apply EvK.loopV
    case ho => exact rfl
    case hp => exact rfl
    case hl => exact rfl
    case hs => repeat' (first | exact Slots.nil | (apply Slots.cons; (case hv => (conv => lhs; whnf); try exact rfl)))
    refine EvL.ind (fun s : Int × Int => [(20, .t (.int .i64 s.1)), (21, .t (.int .i64 s.2))]) (fun s => (S0 ≤ s.1 ∧ s.1 ≤ s.2 ∧ s.2 ≤ R0) ∧ (∀ x y, S0 < s.1 → A[(s.1 - 1 - a).toNat]? = some x → B[((a + b) / 2 - s.1).toNat]? = some y → ltE y x = false) ∧ ∀ x y, s.2 < R0 → A[(s.2 - a).toNat]? = some x → B[((a + b) / 2 - 1 - s.2).toNat]? = some y → ltE y x = true) (fun s => (s.2 - s.1).toNat) (S0, R0) (by rw [← hS, ← hR]; rfl) ⟨⟨by dsimp only; omega, by dsimp only; omega, by dsimp only; omega⟩, fun x y h => by dsimp only at h; omega, fun x y h => by dsimp only at h; omega⟩ (fun s hs => ?_)
    obtain ⟨st, r⟩ := s
    dsimp only at hs ⊢
    obtain ⟨⟨f0, f1, f2⟩, f3, f4⟩ := hs
    by_cases h3 : st < r
    ·
      obtain ⟨c, hc⟩ : ∃ c : Int, (st + r) / 2 = c := ⟨_, rfl⟩
      obtain ⟨x, hx⟩ := get_of_lt (xs := A) (k := (c - a).toNat) (by omega)
      obtain ⟨y, hy⟩ := get_of_lt (xs := B) (k := ((a + b) / 2 - 1 - c).toNat) (by omega)
      have hlx : (A.take (c - a).toNat).length = (c - a).toNat := by simp; omega
      have hly : (B.take ((a + b) / 2 - 1 - c).toNat).length = ((a + b) / 2 - 1 - c).toNat := by simp; omega
      have e1 : d = (P ++ A.take (c - a).toNat) ++ x :: (A.drop ((c - a).toNat + 1) ++ (B ++ R)) := by
        rw [hd]
        conv => lhs; rw [← List.take_append_drop (c - a).toNat A, drop_get hx]
        simp
      have e2 : d = (P ++ (A ++ B.take ((a + b) / 2 - 1 - c).toNat)) ++ y :: (B.drop (((a + b) / 2 - 1 - c).toNat + 1) ++ R) := by
        rw [hd]
        conv => lhs; rw [← List.take_append_drop ((a + b) / 2 - 1 - c).toNat B, drop_get hy]
        simp
      have c1 : (evsE d)[c.toNat]? = some (evCs x) := evs_get (by rw [e1]; exact get_at _ _ _ (by simp [hlx]; omega))
      have c2 : (evsE d)[((a + b) / 2 + m - 1 - c).toNat]? = some (evCs y) := evs_get (by rw [e2]; exact get_at _ _ _ (by simp [hly]; omega))
      rw [← hc] at c1 c2
      have kc := cmpE_c y x
      have hlt := cmpE_lt y x
      obtain ⟨w, hw⟩ : ∃ w, cmpE y x = w := ⟨_, rfl⟩
      rw [hw] at kc hlt
      by_cases hyx : ltE y x = true
      ·
        have hw0 : w < 0 := hlt.2 hyx
        repeat' (first
 | (with_reducible apply EvK.seq)
 | (with_reducible apply EvK.block)
 | ((with_reducible apply EvK.text); (try case hm => exact rfl))
 | ((with_reducible apply EvK.drawn); (case hm => exact rfl))
 | (with_reducible apply EvK.skip)
 | (with_reducible apply thenK_n)
 | ((with_reducible apply EvK.cond_t); (case hc => exact rfl))
 | ((with_reducible apply EvK.cond_f); (case hc => exact rfl))
 | ((with_reducible apply EvO.spd_t); (case hp => first | assumption | omega))
 | (with_reducible apply EvO.nilT)
 | (with_reducible apply EvO.nilB)
 | ((with_reducible apply EvO.u0); (case hx => first
 | ((with_reducible apply OpR.mv); (conv => lhs; whnf); try exact rfl)
 | ((with_reducible apply OpR.asg); (conv => lhs; whnf); try exact rfl)
 | ((with_reducible apply OpR.shr1); (case hx => exact rfl); (case hy => exact rfl); (case hn => exact rfl); (case h => omega))
 | ((with_reducible apply OpR.cvu); (case hx => exact rfl); (case hs => exact rfl); (case hd => exact rfl); (case h => omega))
 | ((with_reducible apply OpR.cvi); (case hx => exact rfl); (case hs => exact rfl); (case hd => exact rfl); (case h => omega))
 | ((with_reducible apply OpR.callF); (case hcal => exact rfl); (case hav => exact rfl); (case hx => exact rfl); (case hh => exact rfl); (case hm => exact rfl); (case hcl => exact kc); (case hr => exact rfl))
 | ((with_reducible apply OpR.add); (case hx => exact rfl); (case hy => exact rfl); (case h => omega))
 | ((with_reducible apply OpR.sub); (case hx => exact rfl); (case hy => exact rfl); (case h => omega))
 | ((with_reducible apply OpR.ixrm); (case he => first | (with_reducible exact el0) | (with_reducible exact el1) | (with_reducible exact el2) | (with_reducible exact el3) | (with_reducible exact el4) | (with_reducible exact el5) | (with_reducible exact el6) | (with_reducible exact el7) | exact rfl); (case hx => exact rfl); (case hi => exact rfl); (case hb => exact rfl); (case h0 => first | assumption | omega); (case hq => first | assumption | omega))
 | ((with_reducible apply OpR.lds); (case hy => exact rfl); (case ht => first | (with_reducible exact sz0) | (with_reducible exact sz1) | (with_reducible exact sz2) | (with_reducible exact sz3) | (with_reducible exact sz4) | (with_reducible exact sz5) | (with_reducible exact sz6) | (with_reducible exact sz7) | (with_reducible exact sz8) | (with_reducible exact sz9)); (case hb => exact rfl); (case hk => assumption); (case hl => kernel_rfl); (case hv => (repeat' (first | exact LEq.nil | ((first | with_reducible apply LEq.cons | apply LEq.cons); (case h => (conv => lhs; whnf); try exact rfl))))))
 | exact OpR.r fun _ => rfl))
 | fail)
        refine ⟨(st, (st + r) / 2), rfl, rfl, ⟨⟨by dsimp only; omega, by dsimp only; omega, by dsimp only; omega⟩, f3, fun x' y' _ hx' hy' => ?_⟩, by dsimp only; omega⟩
        dsimp only at hx' hy'
        rw [hc] at hx' hy'
        rw [hx] at hx'; rw [hy] at hy'
        cases hx'; cases hy'
        exact hyx
      ·
        have hw0 : ¬ w < 0 := fun h => hyx (hlt.1 h)
        repeat' (first
 | (with_reducible apply EvK.seq)
 | (with_reducible apply EvK.block)
 | ((with_reducible apply EvK.text); (try case hm => exact rfl))
 | ((with_reducible apply EvK.drawn); (case hm => exact rfl))
 | (with_reducible apply EvK.skip)
 | (with_reducible apply thenK_n)
 | ((with_reducible apply EvK.cond_t); (case hc => exact rfl))
 | ((with_reducible apply EvO.spd_t); (case hp => first | assumption | omega))
 | ((with_reducible apply EvO.spd_f); (case hp => first | assumption | omega))
 | (with_reducible apply EvO.nilT)
 | (with_reducible apply EvO.nilB)
 | ((with_reducible apply EvO.u0); (case hx => first
 | ((with_reducible apply OpR.mv); (conv => lhs; whnf); try exact rfl)
 | ((with_reducible apply OpR.asg); (conv => lhs; whnf); try exact rfl)
 | ((with_reducible apply OpR.shr1); (case hx => exact rfl); (case hy => exact rfl); (case hn => exact rfl); (case h => omega))
 | ((with_reducible apply OpR.cvu); (case hx => exact rfl); (case hs => exact rfl); (case hd => exact rfl); (case h => omega))
 | ((with_reducible apply OpR.cvi); (case hx => exact rfl); (case hs => exact rfl); (case hd => exact rfl); (case h => omega))
 | ((with_reducible apply OpR.callF); (case hcal => exact rfl); (case hav => exact rfl); (case hx => exact rfl); (case hh => exact rfl); (case hm => exact rfl); (case hcl => exact kc); (case hr => exact rfl))
 | ((with_reducible apply OpR.add); (case hx => exact rfl); (case hy => exact rfl); (case h => omega))
 | ((with_reducible apply OpR.sub); (case hx => exact rfl); (case hy => exact rfl); (case h => omega))
 | ((with_reducible apply OpR.ixrm); (case he => first | (with_reducible exact el0) | (with_reducible exact el1) | (with_reducible exact el2) | (with_reducible exact el3) | (with_reducible exact el4) | (with_reducible exact el5) | (with_reducible exact el6) | (with_reducible exact el7) | exact rfl); (case hx => exact rfl); (case hi => exact rfl); (case hb => exact rfl); (case h0 => first | assumption | omega); (case hq => first | assumption | omega))
 | ((with_reducible apply OpR.lds); (case hy => exact rfl); (case ht => first | (with_reducible exact sz0) | (with_reducible exact sz1) | (with_reducible exact sz2) | (with_reducible exact sz3) | (with_reducible exact sz4) | (with_reducible exact sz5) | (with_reducible exact sz6) | (with_reducible exact sz7) | (with_reducible exact sz8) | (with_reducible exact sz9)); (case hb => exact rfl); (case hk => assumption); (case hl => kernel_rfl); (case hv => (repeat' (first | exact LEq.nil | ((first | with_reducible apply LEq.cons | apply LEq.cons); (case h => (conv => lhs; whnf); try exact rfl))))))
 | exact OpR.r fun _ => rfl))
 | fail)
        refine ⟨((st + r) / 2 + 1, r), rfl, rfl, ⟨⟨by dsimp only; omega, by dsimp only; omega, by dsimp only; omega⟩, fun x' y' _ hx' hy' => ?_, f4⟩, by dsimp only; omega⟩
        dsimp only at hx' hy'
        rw [hc] at hx' hy'
        rw [show c + 1 - 1 - a = c - a by omega, hx] at hx'
        rw [show (a + b) / 2 - (c + 1) = (a + b) / 2 - 1 - c by omega, hy] at hy'
        cases hx'; cases hy'
        simpa using hyx
    ·
      have hstr : st = r := by omega
      have hpart := mrg_part ltE_ord hAs hBs (i := (st - a).toNat) (j := ((a + b) / 2 - st).toNat) (by omega) (by omega) (fun x y h0 hx hy => by
        by_cases hs0 : S0 < st
        · exact f3 x y hs0 (by rw [← hx]; congr 1; omega) hy
        · have := lt_of_get hy
          omega) (fun x y h0 hx hy => by
        by_cases hr0 : r < R0
        · exact f4 x y hr0 (by rw [← hx, hstr]) (by rw [← hy]; congr 1; omega)
        · have := lt_of_get hx
          omega)
      obtain ⟨A1, hA1'⟩ : ∃ A1, A.take (st - a).toNat = A1 := ⟨_, rfl⟩
      obtain ⟨A2, hA2'⟩ : ∃ A2, A.drop (st - a).toNat = A2 := ⟨_, rfl⟩
      obtain ⟨B1, hB1'⟩ : ∃ B1, B.take ((a + b) / 2 - st).toNat = B1 := ⟨_, rfl⟩
      obtain ⟨B2, hB2'⟩ : ∃ B2, B.drop ((a + b) / 2 - st).toNat = B2 := ⟨_, rfl⟩
      have lA1 : (A1.length : Int) = st - a := by rw [← hA1']; simp; omega
      have lA2 : (A2.length : Int) = m - st := by rw [← hA2']; simp; omega
      have lB1 : (B1.length : Int) = (a + b) / 2 - st := by rw [← hB1']; simp; omega
      have lB2 : (B2.length : Int) = b - m - ((a + b) / 2 - st) := by rw [← hB2']; simp; omega
      have sA1 : Srt ltE A1 := hA1' ▸ srt_take hAs _
      have sA2 : Srt ltE A2 := hA2' ▸ srt_drop hAs _
      have sB1 : Srt ltE B1 := hB1' ▸ srt_take hBs _
      have sB2 : Srt ltE B2 := hB2' ▸ srt_drop hBs _
      have hAA : A = A1 ++ A2 := by rw [← hA1', ← hA2', List.take_append_drop]
      have hBB : B = B1 ++ B2 := by rw [← hB1', ← hB2', List.take_append_drop]
      rw [hA1', hA2', hB1', hB2'] at hpart
      clear hA1' hA2' hB1' hB2' f3 f4
      have hd0 : d = (P ++ A1) ++ (A2 ++ (B1 ++ (B2 ++ R))) := by rw [hd, hAA, hBB]; simp
      obtain ⟨d1, hd1⟩ : ∃ d1, (P ++ A1) ++ (B1 ++ (A2 ++ (B2 ++ R))) = d1 := ⟨_, rfl⟩
      obtain ⟨d2, hd2⟩ : ∃ d2, P ++ (mrg ltE A1 B1 ++ (A2 ++ (B2 ++ R))) = d2 := ⟨_, rfl⟩
      have hd3 : (P ++ mrg ltE A1 B1) ++ (mrg ltE A2 B2 ++ R) = d' := by rw [← hd', hpart]; simp
      have hlm : (mrg ltE A1 B1).length = A1.length + B1.length := mrg_len A1 B1
      have l0 : (P ++ A1).length = P.length + A1.length := by simp
      have l2 : (P ++ mrg ltE A1 B1).length = P.length + (A1.length + B1.length) := by rw [List.length_append, hlm]
      have nn : ∀ l : List Ev, ¬ 0 < l.length → l = [] := fun l h => List.length_eq_zero_iff.1 (by omega)
      have e01 : ¬ (0 < A2.length ∧ 0 < B1.length) → d = d1 := fun h => by
        rw [hd0, ← hd1]
        by_cases h2 : 0 < A2.length
        · rw [nn B1 (fun h3 => h ⟨h2, h3⟩)]; simp
        · rw [nn A2 h2]; simp
      have e12 : ¬ (0 < A1.length ∧ 0 < B1.length) → d1 = d2 := fun h => by
        rw [← hd1, ← hd2]
        by_cases h2 : 0 < A1.length
        · rw [nn B1 (fun h3 => h ⟨h2, h3⟩), mrg_nil_r]; simp
        · rw [nn A1 h2, mrg_nil_l]; simp
      have e23 : ¬ (0 < A2.length ∧ 0 < B2.length) → d2 = d' := fun h => by
        rw [← hd2, ← hd3]
        by_cases h2 : 0 < A2.length
        · rw [nn B2 (fun h3 => h ⟨h2, h3⟩), mrg_nil_r]; simp
        · rw [nn A2 h2, mrg_nil_l]; simp
      have hdl1 : d1.length ≤ 1000 := by rw [← hd1]; simp; omega
      have hdl2 : d2.length ≤ 1000 := by rw [← hd2]; simp [hlm]; omega
      have k0 : 0 < A2.length → 0 < B1.length → _ := fun h1 h2 => rot_c hd0 hd1 h1 h2 hl
      have k1 : ∀ D, D = d1 → 0 < A1.length → 0 < B1.length → _ := fun D hD h1 h2 => ih (P := P) (A := A1) (B := B1) (R := A2 ++ (B2 ++ R)) (d := D) (d' := d2) (by omega) h1 h2 sA1 sB1 (by rw [hD, ← hd1]; simp) hd2 (by rw [hD]; exact hdl1)
      have k2 : ∀ D, D = d2 → 0 < A2.length → 0 < B2.length → _ := fun D hD h1 h2 => ih (P := P ++ mrg ltE A1 B1) (A := A2) (B := B2) (R := R) (d := D) (d' := d') (by omega) h1 h2 sA2 sB2 (by rw [hD, ← hd2]; simp) hd3 (by rw [hD]; exact hdl2)
      have hq1 : 0 < A2.length ↔ st < m := by omega
      have hq2 : 0 < B1.length ↔ st < (a + b) / 2 := by omega
      have hq3 : 0 < A1.length ↔ a < st := by omega
      have hq4 : 0 < B2.length ↔ (a + b) / 2 + m - st < b := by omega
      repeat' (first
 | (with_reducible apply EvK.seq)
 | ((with_reducible apply EvK.text); (try case hm => exact rfl))
 | (with_reducible apply EvK.skip)
 | (with_reducible apply EvK.exit)
 | (with_reducible apply thenK_n)
 | (with_reducible apply thenK_e)
 | (with_reducible apply blockK_h)
 | ((with_reducible apply EvK.cond_t); (case hc => exact rfl))
 | ((with_reducible apply EvK.cond_f); (case hc => exact rfl))
 | ((with_reducible apply EvO.spd_t); (case hp => first | assumption | omega))
 | ((with_reducible apply EvO.spd_f); (case hp => first | assumption | omega))
 | ((with_reducible apply EvO.spd) <;> intro hq)
 | ((with_reducible apply EvO.spd_yt); (case hp => first | assumption | omega))
 | ((with_reducible apply EvO.spd_yf); (case hp => first | assumption | omega))
 | ((with_reducible apply EvO.spd_y) <;> intro hq)
 | (with_reducible apply EvO.nilT)
 | (with_reducible apply EvO.nil)
 | ((with_reducible apply EvO.gf); (case hW => exact rfl))
 | ((with_reducible apply EvO.gt0); (case hW => exact rfl); (case hx => first
 | ((with_reducible apply OpR.mv); (conv => lhs; whnf); try exact rfl)
 | exact OpR.r fun _ => rfl))
 | ((with_reducible apply EvO.u0); (case hx => first
 | ((with_reducible apply OpR.mv); (conv => lhs; whnf); try exact rfl)
 | ((with_reducible apply OpR.asg); (conv => lhs; whnf); try exact rfl)
 | ((with_reducible apply OpR.pk_t); (case hc => exact rfl); (case h => (conv => lhs; whnf); try exact rfl))
 | ((with_reducible apply OpR.pk_f); (case hc => exact rfl); (case h => (conv => lhs; whnf); try exact rfl))
 | ((with_reducible apply OpR.callQ [0]); (case hdr => exact rfl); (case hcal => exact rfl); (case hav => exact rfl); (case hx => exact rfl); (case hh => exact rfl); (case hs0 => kernel_rfl); (case hf => kernel_rfl); (case hg => exact rfl); (case hc => kernel_rfl); (case hm => exact rfl); (case hb => exact rfl); (case hcl => exact (k0 (by omega) (by omega) _ _ _ (by omega) (by omega) (by omega))); (case hk => exact rfl); (case hv => (conv => lhs; whnf); try exact rfl); (case hl => (repeat' (first | exact LEq.nil | ((first | with_reducible apply LEq.cons | apply LEq.cons); (case h => (conv => lhs; whnf); try exact rfl))))); (case hq => exact rfl))
 | ((with_reducible apply OpR.callQ [0]); (case hdr => exact rfl); (case hcal => exact rfl); (case hav => exact rfl); (case hx => exact rfl); (case hh => exact rfl); (case hs0 => kernel_rfl); (case hf => kernel_rfl); (case hg => exact rfl); (case hc => kernel_rfl); (case hm => exact rfl); (case hb => exact rfl); (case hcl => exact (k1 _ (by first | rfl | exact e01 (by omega)) (by omega) (by omega) _ _ _ (by omega) (by omega) (by omega))); (case hk => exact rfl); (case hv => (conv => lhs; whnf); try exact rfl); (case hl => (repeat' (first | exact LEq.nil | ((first | with_reducible apply LEq.cons | apply LEq.cons); (case h => (conv => lhs; whnf); try exact rfl))))); (case hq => exact rfl))
 | ((with_reducible apply OpR.callQ [0]); (case hdr => exact rfl); (case hcal => exact rfl); (case hav => exact rfl); (case hx => exact rfl); (case hh => exact rfl); (case hs0 => kernel_rfl); (case hf => kernel_rfl); (case hg => exact rfl); (case hc => kernel_rfl); (case hm => exact rfl); (case hb => exact rfl); (case hcl => exact (k2 _ (by first | rfl | exact e12 (by omega) | exact (e01 (by omega)).trans (e12 (by omega))) (by omega) (by omega) _ _ _ (by omega) (by omega) (by omega))); (case hk => exact rfl); (case hv => (conv => lhs; whnf); try exact rfl); (case hl => (repeat' (first | exact LEq.nil | ((first | with_reducible apply LEq.cons | apply LEq.cons); (case h => (conv => lhs; whnf); try exact rfl))))); (case hq => exact rfl))
 | ((with_reducible apply OpR.sub); (case hx => exact rfl); (case hy => exact rfl); (case h => omega))
 | exact OpR.r fun _ => rfl))
 | fail)
      all_goals first
        | exact ⟨.inl rfl, rfl⟩
        | (rw [← e23 (by omega)]; exact ⟨.inl rfl, rfl⟩)
        | (rw [← e23 (by omega), ← e12 (by omega)]; exact ⟨.inl rfl, rfl⟩)
        | (rw [← e23 (by omega), ← e12 (by omega), ← e01 (by omega)]; exact ⟨.inl rfl, rfl⟩)
        | (exfalso; omega)
theorem sym_c : ∀ (N : Nat) {P A B R d d' : List Ev}, A.length + B.length ≤ N → SymOk P A B R d d'
  | 0, P, A, B, R, d, d', hN => fun h => by omega
  | N + 1, P, A, B, R, d, d', hN => by
    by_cases h1 : A.length = 1
    · obtain ⟨x, rfl⟩ := List.length_eq_one_iff.1 h1
      exact sym_one
    · by_cases h2 : B.length = 1
      · obtain ⟨y, rfl⟩ := List.length_eq_one_iff.1 h2
        exact sym_last h1
      · exact sym_big (N := N + 1) (fun h => sym_c N (by omega)) hN h1 h2
end Go.Proofs.YtgbfedgghjcdcaaGreatDoor

namespace Go.Proofs.YtgbfedgghjcdcaaGreatDoor
set_option linter.unusedSimpArgs false
set_option linter.unusedVariables false
set_option linter.unusedSectionVars false
open Go.RowKit
set_option maxRecDepth 100000
set_option maxHeartbeats 32000000

theorem isort_l (l : List Ev) : (isort ltE l).length = l.length := isort_len _ l rfl
theorem isort_s (l : List Ev) : Srt ltE (isort ltE l) := isort_srt ltE_ord _ l rfl
theorem isort_m (a b : List Ev) : mrg ltE (isort ltE a) (isort ltE b) = isort ltE (a ++ b) := (isort_app ltE_ord a _ b rfl).symm
theorem isort_n : isort ltE ([] : List Ev) = [] := rfl
def T0 (l : List Ev) : List Ev := isort ltE (l.take 20) ++ (isort ltE ((l.drop 20).take 20) ++ isort ltE (l.drop 40))
def T1 (l : List Ev) : List Ev := isort ltE (l.take 40) ++ isort ltE (l.drop 40)
theorem take40 (l : List Ev) : l.take 20 ++ (l.drop 20).take 20 = l.take 40 := by
  rw [← List.take_add]
theorem stable_c {l : List Ev} (hl : l.length ≤ 60) : Cl cfg 136 [.ls 0, .t (.int .i64 (l.length : Int)), cF] [.row false false 13 (evsE l)] (.tup []) [.row false false 13 (evsE (isort ltE l))] := by
  have t40 := take40 l
  have lA : (isort ltE (l.take 20)).length = min 20 l.length := by rw [isort_l]; simp
  have lB : (isort ltE ((l.drop 20).take 20)).length = min 20 (l.length - 20) := by rw [isort_l]; simp
  have lC : (isort ltE (l.drop 40)).length = l.length - 40 := by rw [isort_l]; simp
  have lF : (isort ltE (l.take 40)).length = min 40 l.length := by rw [isort_l]; simp
  have hT0l : (T0 l).length ≤ 1000 := by unfold T0; simp only [List.length_append]; omega
  have hT1l : (T1 l).length ≤ 1000 := by unfold T1; simp only [List.length_append]; omega
  have nC : ∀ k, l.length ≤ k → l.drop k = [] := fun k h => drop_end h
  have hT0 : l.length ≤ 20 → T0 l = isort ltE l := fun h => by
    unfold T0
    rw [nC 20 h, nC 40 (by omega), List.take_of_length_le h]
    simp [isort_n]
  have hT1 : l.length ≤ 40 → T1 l = isort ltE l := fun h => by
    unfold T1
    rw [nC 40 h, List.take_of_length_le h, isort_n, List.append_nil]
  refine Cl.of_body rfl Tryz.func136 rfl rfl rfl ?_
  repeat' (first
 | (with_reducible apply EvK.seq)
 | (with_reducible apply EvK.block)
 | ((with_reducible apply EvK.text); (try case hm => exact rfl))
 | (with_reducible apply EvO.nilT)
 | ((with_reducible apply EvO.u0); (case hx => first
 | ((with_reducible apply OpR.mv); (conv => lhs; whnf); try exact rfl)
 | ((with_reducible apply OpR.asg); (conv => lhs; whnf); try exact rfl)))
 | fail)
  apply EvK.loopV
  case ho => exact rfl
  case hp => exact rfl
  case hl => exact rfl
  case hs => repeat' (first | exact Slots.nil | (apply Slots.cons; (case hv => (conv => lhs; whnf); try exact rfl)))
  obtain ⟨Q, hQ0, hQ1, hQ2, hQ3⟩ : ∃ Q : Nat → List Ev, Q 0 = l ∧ Q 1 = isort ltE (l.take 20) ++ l.drop 20 ∧ Q 2 = isort ltE (l.take 20) ++ (isort ltE ((l.drop 20).take 20) ++ l.drop 40) ∧ Q 3 = isort ltE (l.take 20) ++ (isort ltE ((l.drop 20).take 20) ++ (isort ltE ((l.drop 40).take 20) ++ l.drop 60)) :=
    ⟨fun k => if k = 0 then l else if k = 1 then isort ltE (l.take 20) ++ l.drop 20 else if k = 2 then isort ltE (l.take 20) ++ (isort ltE ((l.drop 20).take 20) ++ l.drop 40) else isort ltE (l.take 20) ++ (isort ltE ((l.drop 20).take 20) ++ (isort ltE ((l.drop 40).take 20) ++ l.drop 60)), rfl, rfl, rfl, rfl⟩
  refine EvL.indF (fun s : Int × Int × Nat => [(7, .t (.int .i64 s.1)), (8, .t (.int .i64 s.2.1))]) (fun s => [.row false false 13 (evsE (Q s.2.2))]) (fun s => s.1 = 20 * s.2.2 ∧ s.2.1 = 20 * s.2.2 + 20 ∧ 20 * s.2.2 ≤ l.length) (fun s => 4 - s.2.2) (0, 20, 0) rfl (by rw [hQ0]) ⟨by simp, by simp, by simp⟩ (fun s hs => ?_)
  obtain ⟨a, b, k⟩ := s
  dsimp only at hs ⊢
  obtain ⟨ha, hb, hk⟩ := hs
  rcases Nat.lt_or_ge l.length (20 * k + 20) with h1 | h1
  ·
    have hfin : ∃ P X R, Q k = P ++ (X ++ R) ∧ P ++ (isort ltE X ++ R) = T0 l ∧ (Q k).length ≤ 1000 ∧ P.length = 20 * k ∧ P.length + X.length = l.length := by
      have hk3 : k = 0 ∨ k = 1 ∨ k = 2 ∨ k = 3 := by omega
      rcases hk3 with rfl | rfl | rfl | rfl
      · exact ⟨[], l, [], by rw [hQ0]; simp, by rw [hT0 (by omega)]; simp, by rw [hQ0]; omega, rfl, by simp⟩
      · refine ⟨isort ltE (l.take 20), l.drop 20, [], by rw [hQ1]; simp, ?_, by rw [hQ1]; simp; omega, by omega, by simp; omega⟩
        unfold T0
        rw [nC 40 (by omega), List.take_of_length_le (l := l.drop 20) (by simp; omega), isort_n]
      · refine ⟨isort ltE (l.take 20) ++ isort ltE ((l.drop 20).take 20), l.drop 40, [], by rw [hQ2]; simp, by unfold T0; simp, by rw [hQ2]; simp; omega, by simp; omega, by simp; omega⟩
      · refine ⟨isort ltE (l.take 20) ++ (isort ltE ((l.drop 20).take 20) ++ isort ltE ((l.drop 40).take 20)), l.drop 60, [], by rw [hQ3]; simp, ?_, by rw [hQ3]; simp [isort_l]; omega, by simp [isort_l]; omega, by simp [isort_l]; omega⟩
        unfold T0
        rw [nC 60 (by omega), List.take_of_length_le (l := l.drop 40) (by simp; omega), isort_n]
        simp
    obtain ⟨P, X, R, hq, ht, hql, hp1, hp2⟩ := hfin
    obtain ⟨D0, hD0⟩ : ∃ D, Q k = D := ⟨_, rfl⟩
    rw [hD0] at hq hql ⊢
    have hi := ins_c hq ht hql
    repeat' (first
 | (with_reducible apply EvK.seq)
 | (with_reducible apply EvK.block)
 | ((with_reducible apply EvK.text); (try case hm => exact rfl))
 | (with_reducible apply EvK.exit)
 | (with_reducible apply thenK_n)
 | (with_reducible apply thenK_e)
 | (with_reducible apply blockK_h)
 | ((with_reducible apply EvK.cond_f); (case hc => exact rfl))
 | ((with_reducible apply EvO.spd_f); (case hp => first | assumption | omega))
 | (with_reducible apply EvO.nilT)
 | ((with_reducible apply EvO.u0); (case hx => first
 | ((with_reducible apply OpR.mv); (conv => lhs; whnf); try exact rfl)
 | ((with_reducible apply OpR.callQ [0]); (case hdr => exact rfl); (case hcal => exact rfl); (case hav => exact rfl); (case hx => exact rfl); (case hh => exact rfl); (case hs0 => kernel_rfl); (case hf => kernel_rfl); (case hg => exact rfl); (case hc => kernel_rfl); (case hm => exact rfl); (case hb => exact rfl); (case hcl => exact (hi _ _ (by omega) (by omega))); (case hk => exact rfl); (case hv => (conv => lhs; whnf); try exact rfl); (case hl => (repeat' (first | exact LEq.nil | ((first | with_reducible apply LEq.cons | apply LEq.cons); (case h => (conv => lhs; whnf); try exact rfl))))); (case hq => exact rfl))
 | exact OpR.r fun _ => rfl))
 | fail)
    apply EvK.loopV
    case ho => exact rfl
    case hp => exact rfl
    case hl => exact rfl
    case hs => repeat' (first | exact Slots.nil | (apply Slots.cons; (case hv => (conv => lhs; whnf); try exact rfl)))
    obtain ⟨W, hW0, hW1, hW2⟩ : ∃ W : Nat → List Ev, W 0 = T0 l ∧ W 1 = T1 l ∧ W 2 = isort ltE l := ⟨fun k => if k = 0 then T0 l else if k = 1 then T1 l else isort ltE l, rfl, rfl, rfl⟩
    refine EvL.indF (fun s : Int × Nat => [(6, .t (.int .i64 s.1))]) (fun s => [.row false false 13 (evsE (W s.2))]) (fun s => (s.2 = 0 ∧ s.1 = 20) ∨ (s.2 = 1 ∧ s.1 = 40 ∧ 20 < l.length) ∨ (s.2 = 2 ∧ s.1 = 80)) (fun s => 2 - s.2) (20, 0) rfl (by rw [hW0]) (.inl ⟨rfl, rfl⟩) (fun s hs => ?_)
    obtain ⟨bs, t⟩ := s
    dsimp only at hs ⊢
    rcases hs with ⟨rfl, rfl⟩ | ⟨rfl, rfl, h20⟩ | ⟨rfl, rfl⟩
    ·
      by_cases h2 : 20 < l.length
      ·
        rw [hW0]
        repeat' (first
 | (with_reducible apply EvK.seq)
 | (with_reducible apply EvK.block)
 | ((with_reducible apply EvK.text); (try case hm => exact rfl))
 | (with_reducible apply EvK.skip)
 | (with_reducible apply thenK_n)
 | ((with_reducible apply EvK.cond_t); (case hc => exact rfl))
 | ((with_reducible apply EvO.spd_t); (case hp => first | assumption | omega))
 | (with_reducible apply EvO.nilT)
 | ((with_reducible apply EvO.u0); (case hx => first
 | ((with_reducible apply OpR.mv); (conv => lhs; whnf); try exact rfl)
 | ((with_reducible apply OpR.asg); (conv => lhs; whnf); try exact rfl)
 | exact OpR.r fun _ => rfl))
 | fail)
        apply EvK.loopV
        case ho => exact rfl
        case hp => exact rfl
        case hl => exact rfl
        case hs => repeat' (first | exact Slots.nil | (apply Slots.cons; (case hv => (conv => lhs; whnf); try exact rfl)))
        refine EvL.indF (fun s : Int × Int × Nat => [(7, .t (.int .i64 s.1)), (8, .t (.int .i64 s.2.1))]) (fun s => [.row false false 13 (evsE (W s.2.2))]) (fun s => (s.2.2 = 0 ∧ s.1 = 0 ∧ s.2.1 = 40) ∨ (s.2.2 = 1 ∧ s.1 = 40 ∧ s.2.1 = 80 ∧ 40 ≤ l.length)) (fun s => 1 - s.2.2) (0, 40, 0) rfl (by rw [hW0]) (.inl ⟨rfl, rfl, rfl⟩) (fun s hs => ?_)
        obtain ⟨a', b', t'⟩ := s
        dsimp only at hs ⊢
        have hm1 : ∀ D, D = T0 l → _ := fun D hD => sym_c _ (Nat.le_refl _) (P := []) (A := isort ltE (l.take 20)) (B := isort ltE ((l.drop 20).take 20)) (R := isort ltE (l.drop 40)) (d := D) (d' := T1 l) (by omega) (by omega) (isort_s _) (isort_s _) (by rw [hD]; rfl) (by unfold T1; rw [isort_m, t40]; rfl) (by rw [hD]; exact hT0l)
        have hnil : ([] : List Ev).length = 0 := rfl
        rcases hs with ⟨rfl, rfl, rfl⟩ | ⟨rfl, rfl, rfl, h40⟩
        ·
          rw [hW0]
          by_cases h3 : 40 ≤ l.length
          ·
            repeat' (first
 | (with_reducible apply EvK.seq)
 | (with_reducible apply EvK.block)
 | ((with_reducible apply EvK.text); (try case hm => exact rfl))
 | (with_reducible apply EvK.skip)
 | (with_reducible apply thenK_n)
 | ((with_reducible apply EvK.cond_t); (case hc => exact rfl))
 | ((with_reducible apply EvO.spd_t); (case hp => first | assumption | omega))
 | (with_reducible apply EvO.nilT)
 | (with_reducible apply EvO.nilB)
 | ((with_reducible apply EvO.u0); (case hx => first
 | ((with_reducible apply OpR.mv); (conv => lhs; whnf); try exact rfl)
 | ((with_reducible apply OpR.asg); (conv => lhs; whnf); try exact rfl)
 | ((with_reducible apply OpR.mul); (case hx => exact rfl); (case hy => exact rfl); (case h => omega))
 | ((with_reducible apply OpR.callQ [0]); (case hdr => exact rfl); (case hcal => exact rfl); (case hav => exact rfl); (case hx => exact rfl); (case hh => exact rfl); (case hs0 => kernel_rfl); (case hf => kernel_rfl); (case hg => exact rfl); (case hc => kernel_rfl); (case hm => exact rfl); (case hb => exact rfl); (case hcl => exact (hm1 _ rfl _ _ _ (by omega) (by omega) (by omega))); (case hk => exact rfl); (case hv => (conv => lhs; whnf); try exact rfl); (case hl => (repeat' (first | exact LEq.nil | ((first | with_reducible apply LEq.cons | apply LEq.cons); (case h => (conv => lhs; whnf); try exact rfl))))); (case hq => exact rfl))
 | ((with_reducible apply OpR.add); (case hx => exact rfl); (case hy => exact rfl); (case h => omega))
 | exact OpR.r fun _ => rfl))
 | fail)
            refine ⟨(40, 80, 1), rfl, by rw [← hW1]; rfl, .inr ⟨rfl, rfl, rfl, h3⟩, by decide⟩
          ·
            repeat' (first
 | (with_reducible apply EvK.seq)
 | ((with_reducible apply EvK.text); (try case hm => exact rfl))
 | (with_reducible apply EvK.exit)
 | (with_reducible apply thenK_n)
 | (with_reducible apply thenK_e)
 | (with_reducible apply blockK_h)
 | ((with_reducible apply EvK.cond_t); (case hc => exact rfl))
 | ((with_reducible apply EvK.cond_f); (case hc => exact rfl))
 | ((with_reducible apply EvO.spd_t); (case hp => first | assumption | omega))
 | ((with_reducible apply EvO.spd_f); (case hp => first | assumption | omega))
 | (with_reducible apply EvO.nilT)
 | (with_reducible apply EvO.nilB)
 | ((with_reducible apply EvO.u0); (case hx => first
 | ((with_reducible apply OpR.mv); (conv => lhs; whnf); try exact rfl)
 | ((with_reducible apply OpR.asg); (conv => lhs; whnf); try exact rfl)
 | ((with_reducible apply OpR.mul); (case hx => exact rfl); (case hy => exact rfl); (case h => omega))
 | ((with_reducible apply OpR.callQ [0]); (case hdr => exact rfl); (case hcal => exact rfl); (case hav => exact rfl); (case hx => exact rfl); (case hh => exact rfl); (case hs0 => kernel_rfl); (case hf => kernel_rfl); (case hg => exact rfl); (case hc => kernel_rfl); (case hm => exact rfl); (case hb => exact rfl); (case hcl => exact (hm1 _ rfl _ _ _ (by omega) (by omega) (by omega))); (case hk => exact rfl); (case hv => (conv => lhs; whnf); try exact rfl); (case hl => (repeat' (first | exact LEq.nil | ((first | with_reducible apply LEq.cons | apply LEq.cons); (case h => (conv => lhs; whnf); try exact rfl))))); (case hq => exact rfl))
 | ((with_reducible apply OpR.add); (case hx => exact rfl); (case hy => exact rfl); (case h => omega))
 | exact OpR.r fun _ => rfl))
 | fail)
            refine ⟨(40, 1), rfl, by rw [← hW1]; rfl, .inr (.inl ⟨rfl, rfl, h2⟩), by decide⟩
        ·
          rw [hW1]
          repeat' (first
 | (with_reducible apply EvK.seq)
 | ((with_reducible apply EvK.text); (try case hm => exact rfl))
 | (with_reducible apply EvK.skip)
 | (with_reducible apply EvK.exit)
 | (with_reducible apply thenK_n)
 | (with_reducible apply thenK_e)
 | (with_reducible apply blockK_h)
 | ((with_reducible apply EvK.cond_f); (case hc => exact rfl))
 | ((with_reducible apply EvO.spd_f); (case hp => first | assumption | omega))
 | (with_reducible apply EvO.nilT)
 | (with_reducible apply EvO.nilB)
 | ((with_reducible apply EvO.u0); (case hx => first
 | ((with_reducible apply OpR.mv); (conv => lhs; whnf); try exact rfl)
 | ((with_reducible apply OpR.asg); (conv => lhs; whnf); try exact rfl)
 | ((with_reducible apply OpR.mul); (case hx => exact rfl); (case hy => exact rfl); (case h => omega))
 | ((with_reducible apply OpR.add); (case hx => exact rfl); (case hy => exact rfl); (case h => omega))
 | exact OpR.r fun _ => rfl))
 | fail)
          refine ⟨(40, 1), rfl, by rw [← hW1]; rfl, .inr (.inl ⟨rfl, rfl, h2⟩), by decide⟩
      ·
        rw [hW0, hT0 (by omega)]
        repeat' (first
 | (with_reducible apply EvK.seq)
 | ((with_reducible apply EvK.text); (try case hm => exact rfl))
 | (with_reducible apply EvK.exit)
 | (with_reducible apply thenK_e)
 | (with_reducible apply blockK_h)
 | ((with_reducible apply EvK.cond_f); (case hc => exact rfl))
 | ((with_reducible apply EvO.spd_f); (case hp => first | assumption | omega))
 | (with_reducible apply EvO.nilT)
 | ((with_reducible apply EvO.u0); (case hx => first
 | ((with_reducible apply OpR.mv); (conv => lhs; whnf); try exact rfl)
 | exact OpR.r fun _ => rfl))
 | fail)
        exact ⟨.inl rfl, rfl⟩
    ·
      by_cases h2 : 40 < l.length
      ·
        rw [hW1]
        repeat' (first
 | (with_reducible apply EvK.seq)
 | (with_reducible apply EvK.block)
 | ((with_reducible apply EvK.text); (try case hm => exact rfl))
 | (with_reducible apply EvK.skip)
 | (with_reducible apply thenK_n)
 | ((with_reducible apply EvK.cond_t); (case hc => exact rfl))
 | ((with_reducible apply EvO.spd_t); (case hp => first | assumption | omega))
 | (with_reducible apply EvO.nilT)
 | ((with_reducible apply EvO.u0); (case hx => first
 | ((with_reducible apply OpR.mv); (conv => lhs; whnf); try exact rfl)
 | ((with_reducible apply OpR.asg); (conv => lhs; whnf); try exact rfl)
 | ((with_reducible apply OpR.mul); (case hx => exact rfl); (case hy => exact rfl); (case h => omega))
 | exact OpR.r fun _ => rfl))
 | fail)
        apply EvK.loopV
        case ho => exact rfl
        case hp => exact rfl
        case hl => exact rfl
        case hs => repeat' (first | exact Slots.nil | (apply Slots.cons; (case hv => (conv => lhs; whnf); try exact rfl)))
        refine EvL.ind (fun _ : Nat => [(7, .t (.int .i64 0)), (8, .t (.int .i64 80))]) (fun _ => True) (fun s => s) 0 rfl trivial (fun s hs => ?_)
        have hm1 := sym_c _ (Nat.le_refl _) (P := []) (A := isort ltE (l.take 40)) (B := isort ltE (l.drop 40)) (R := []) (d := T1 l) (d' := isort ltE l) (by omega) (by omega) (isort_s _) (isort_s _) (by unfold T1; simp) (by rw [isort_m, List.take_append_drop]; simp) hT1l
        have hnil : ([] : List Ev).length = 0 := rfl
        repeat' (first
 | (with_reducible apply EvK.seq)
 | ((with_reducible apply EvK.text); (try case hm => exact rfl))
 | (with_reducible apply EvK.exit)
 | (with_reducible apply thenK_n)
 | (with_reducible apply thenK_e)
 | (with_reducible apply blockK_h)
 | ((with_reducible apply EvK.cond_t); (case hc => exact rfl))
 | ((with_reducible apply EvK.cond_f); (case hc => exact rfl))
 | ((with_reducible apply EvO.spd_t); (case hp => first | assumption | omega))
 | ((with_reducible apply EvO.spd_f); (case hp => first | assumption | omega))
 | (with_reducible apply EvO.nilT)
 | (with_reducible apply EvO.nilB)
 | ((with_reducible apply EvO.u0); (case hx => first
 | ((with_reducible apply OpR.mv); (conv => lhs; whnf); try exact rfl)
 | ((with_reducible apply OpR.asg); (conv => lhs; whnf); try exact rfl)
 | ((with_reducible apply OpR.mul); (case hx => exact rfl); (case hy => exact rfl); (case h => omega))
 | ((with_reducible apply OpR.callQ [0]); (case hdr => exact rfl); (case hcal => exact rfl); (case hav => exact rfl); (case hx => exact rfl); (case hh => exact rfl); (case hs0 => kernel_rfl); (case hf => kernel_rfl); (case hg => exact rfl); (case hc => kernel_rfl); (case hm => exact rfl); (case hb => exact rfl); (case hcl => exact (hm1 _ _ _ (by omega) (by omega) (by omega))); (case hk => exact rfl); (case hv => (conv => lhs; whnf); try exact rfl); (case hl => (repeat' (first | exact LEq.nil | ((first | with_reducible apply LEq.cons | apply LEq.cons); (case h => (conv => lhs; whnf); try exact rfl))))); (case hq => exact rfl))
 | ((with_reducible apply OpR.add); (case hx => exact rfl); (case hy => exact rfl); (case h => omega))
 | exact OpR.r fun _ => rfl))
 | fail)
        refine ⟨(80, 2), rfl, by rw [← hW2]; rfl, .inr (.inr ⟨rfl, rfl⟩), by decide⟩
      ·
        rw [hW1, hT1 (by omega)]
        repeat' (first
 | (with_reducible apply EvK.seq)
 | ((with_reducible apply EvK.text); (try case hm => exact rfl))
 | (with_reducible apply EvK.exit)
 | (with_reducible apply thenK_e)
 | (with_reducible apply blockK_h)
 | ((with_reducible apply EvK.cond_f); (case hc => exact rfl))
 | ((with_reducible apply EvO.spd_f); (case hp => first | assumption | omega))
 | (with_reducible apply EvO.nilT)
 | ((with_reducible apply EvO.u0); (case hx => first
 | ((with_reducible apply OpR.mv); (conv => lhs; whnf); try exact rfl)
 | exact OpR.r fun _ => rfl))
 | fail)
        exact ⟨.inl rfl, rfl⟩
    ·
      rw [hW2]
      repeat' (first
 | (with_reducible apply EvK.seq)
 | ((with_reducible apply EvK.text); (try case hm => exact rfl))
 | (with_reducible apply EvK.exit)
 | (with_reducible apply thenK_e)
 | (with_reducible apply blockK_h)
 | ((with_reducible apply EvK.cond_f); (case hc => exact rfl))
 | ((with_reducible apply EvO.spd_f); (case hp => first | assumption | omega))
 | (with_reducible apply EvO.nilT)
 | ((with_reducible apply EvO.u0); (case hx => first
 | ((with_reducible apply OpR.mv); (conv => lhs; whnf); try exact rfl)
 | exact OpR.r fun _ => rfl))
 | fail)
      exact ⟨.inl rfl, rfl⟩
  ·
    have hst : ∃ P X R, Q k = P ++ (X ++ R) ∧ P ++ (isort ltE X ++ R) = Q (k + 1) ∧ (Q k).length ≤ 1000 ∧ P.length = 20 * k ∧ X.length = 20 := by
      have hk3 : k = 0 ∨ k = 1 ∨ k = 2 := by omega
      rcases hk3 with rfl | rfl | rfl
      · exact ⟨[], l.take 20, l.drop 20, by rw [hQ0]; simp, by rw [hQ1]; simp, by rw [hQ0]; omega, rfl, by simp; omega⟩
      · refine ⟨isort ltE (l.take 20), (l.drop 20).take 20, l.drop 40, by rw [hQ1, show l.drop 40 = (l.drop 20).drop 20 by rw [List.drop_drop], List.take_append_drop], hQ2.symm, by rw [hQ1]; simp; omega, by omega, by simp; omega⟩
      · refine ⟨isort ltE (l.take 20) ++ isort ltE ((l.drop 20).take 20), (l.drop 40).take 20, l.drop 60, by rw [hQ2, show l.drop 60 = (l.drop 40).drop 20 by rw [List.drop_drop], List.take_append_drop]; simp, by rw [hQ3]; simp, by rw [hQ2]; simp; omega, by simp; omega, by simp; omega⟩
    obtain ⟨P, X, R, hq, ht, hql, hp1, hp2⟩ := hst
    obtain ⟨D0, hD0⟩ : ∃ D, Q k = D := ⟨_, rfl⟩
    obtain ⟨D1, hD1⟩ : ∃ D, Q (k + 1) = D := ⟨_, rfl⟩
    rw [hD0] at hq hql ⊢
    rw [hD1] at ht
    have hi := ins_c hq ht hql
    repeat' (first
 | (with_reducible apply EvK.seq)
 | (with_reducible apply EvK.block)
 | ((with_reducible apply EvK.text); (try case hm => exact rfl))
 | (with_reducible apply EvK.skip)
 | (with_reducible apply thenK_n)
 | ((with_reducible apply EvK.cond_t); (case hc => exact rfl))
 | ((with_reducible apply EvO.spd_t); (case hp => first | assumption | omega))
 | (with_reducible apply EvO.nilT)
 | (with_reducible apply EvO.nilB)
 | ((with_reducible apply EvO.u0); (case hx => first
 | ((with_reducible apply OpR.mv); (conv => lhs; whnf); try exact rfl)
 | ((with_reducible apply OpR.asg); (conv => lhs; whnf); try exact rfl)
 | ((with_reducible apply OpR.callQ [0]); (case hdr => exact rfl); (case hcal => exact rfl); (case hav => exact rfl); (case hx => exact rfl); (case hh => exact rfl); (case hs0 => kernel_rfl); (case hf => kernel_rfl); (case hg => exact rfl); (case hc => kernel_rfl); (case hm => exact rfl); (case hb => exact rfl); (case hcl => exact (hi _ _ (by omega) (by omega))); (case hk => exact rfl); (case hv => (conv => lhs; whnf); try exact rfl); (case hl => (repeat' (first | exact LEq.nil | ((first | with_reducible apply LEq.cons | apply LEq.cons); (case h => (conv => lhs; whnf); try exact rfl))))); (case hq => exact rfl))
 | ((with_reducible apply OpR.add); (case hx => exact rfl); (case hy => exact rfl); (case h => omega))
 | exact OpR.r fun _ => rfl))
 | fail)
    refine ⟨(b, b + 20, k + 1), rfl, by dsimp only; rw [hD1]; rfl, ⟨by dsimp only; omega, by dsimp only; omega, by dsimp only; omega⟩, by dsimp only; omega⟩
end Go.Proofs.YtgbfedgghjcdcaaGreatDoor
