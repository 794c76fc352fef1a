/- Law 32: the reference reads a note. No condition. -/
import Derived.Test.YtgbfedgghjcdcaaGreatDoorEH
namespace Go.Proofs.YtgbfedgghjcdcaaGreatDoor
set_option linter.unusedSimpArgs false
set_option linter.unusedVariables false
set_option linter.unusedSectionVars false
open Go.RowKit
set_option maxRecDepth 100000
set_option maxHeartbeats 32000000

theorem rp_note {l : List UInt8} (hl : l.length ≤ 800) (hc : 1 ≤ pos 91 l ∧ pos 91 l ≤ pos 93 l ∧ pos 93 l + 2 ≤ l.length) (h46 : (wordsR (l.take (pos 91 l))).length = 4 ∧ 6 ≤ (wordsR (l.drop (pos 93 l + 1))).length) (hw : (wordsR (l.drop (pos 93 l + 1))).getD 1 [] = wNote ∧ (wordsR (l.drop (pos 93 l + 1))).length = 6) : Cl cfg 21 [.t (.str (bs l))] [] (parER (parE l)).1 (parER (parE l)).2 := by
  have hsz : (bs l).size = l.length := bs_size l
  refine Cl.of_body rfl Tryz.func21 rfl rfl rfl ?_
  repeat' (first
     | (with_reducible apply EvK.seq)
     | (with_reducible apply EvK.block)
     | ((with_reducible apply EvK.text); (try case hm => exact rfl))
     | (with_reducible apply EvO.nilT)
     | ((with_reducible apply EvO.u0); (case hx => first
        | ((with_reducible apply OpR.asg); (conv => lhs; whnf); try exact rfl)
        | ((with_reducible apply OpR.al); (case hs => exact fun _ => rfl); (case hz => exact rfl); (case hc => (repeat' (first | exact LEq.nil | ((with_reducible apply LEq.cons); (case h => (conv => lhs; whnf); try exact rfl)) | (apply LEq.cons; (case h => (conv => lhs; whnf); try exact rfl))))); (case hn => (first | exact ln0 | exact ln1 | exact ln2 | exact ln3 | exact ln4 | exact ln5 | exact ln6 | exact ln7 | exact ln8 | exact ln9 | exact ln10 | exact ln11 | exact ln12 | exact ln13 | exact ln14)); (case hf => (repeat' (first | exact LEq.nil | ((with_reducible apply LEq.cons); (case h => (conv => lhs; whnf); try exact rfl)) | (apply LEq.cons; (case h => (conv => lhs; whnf); try exact rfl))))))))
     | fail)
  apply EvK.loopV
  case ho => exact rfl
  case hp => exact rfl
  case hl => exact rfl
  case hs => repeat' (first | exact Slots.nil | (apply Slots.cons; (case hv => (conv => lhs; whnf); try exact rfl)))
  refine EvL.ind (fun q : Nat => [(4, .t (.int .i64 (opn 91 l q))), (5, .t (.int .i64 (opn 93 l q))), (6, .t (.int .i64 (q : Int)))]) (fun q => q ≤ l.length) (fun q => l.length - q) 0 rfl (by omega) (fun q hq => ?_)
  rcases Nat.lt_or_ge q l.length with h4 | h4
  ·
    obtain ⟨b, hb⟩ := get_of_lt h4
    have h91' : (((91 : UInt8).toNat : Nat) : Int) = 91 := rfl
    have h93' : (((93 : UInt8).toNat : Nat) : Int) = 93 := rfl
    by_cases c1 : b = 91 ∧ opn 91 l q < 0
    ·
      have n1 := opn_hit hb c1.1 c1.2
      have n2 := opn_miss (c := 93) hb (fun h => by have := h.1.symm.trans c1.1; cases this)
      have hb91 : (b.toNat : Int) = 91 := by rw [c1.1]; rfl
      obtain ⟨_, ho⟩ := c1
      repeat' (first
         | (with_reducible apply EvK.seq)
         | (with_reducible apply EvK.block)
         | ((with_reducible apply EvK.text); (try case hm => exact rfl))
         | (with_reducible apply EvK.skip)
         | (with_reducible apply thenK_n)
         | (with_reducible apply blockK_n)
         | ((with_reducible apply EvK.cond_t); (case hc => exact rfl))
         | ((with_reducible apply EvK.cond_f); (case hc => exact rfl))
         | ((with_reducible apply EvO.spd_t); (case hp => first | assumption | omega))
         | ((with_reducible apply EvO.spd_f); (case hp => first | assumption | omega))
         | ((with_reducible apply EvO.spd_yt); (case hp => first | assumption | omega))
         | (with_reducible apply EvO.nilT)
         | ((with_reducible apply EvO.gf); (case hW => exact rfl))
         | ((with_reducible apply EvO.gt0); (case hW => exact rfl); (case hx => first
            | ((with_reducible apply OpR.mv); (conv => lhs; whnf); try exact rfl)
            | exact OpR.r fun _ => rfl))
         | ((with_reducible apply EvO.u0); (case hx => first
            | ((with_reducible apply OpR.mv); (conv => lhs; whnf); try exact rfl)
            | ((with_reducible apply OpR.asg); (conv => lhs; whnf); try exact rfl)
            | ((with_reducible apply OpR.pk_t); (case hc => exact rfl); (case h => (conv => lhs; whnf); try exact rfl))
            | ((with_reducible apply OpR.pk_f); (case hc => exact rfl); (case h => (conv => lhs; whnf); try exact rfl))
            | ((with_reducible apply OpR.six); (case hx => exact rfl); (case hi => exact rfl); (case hst => exact rfl); (case h0 => omega); (case hb => assumption))
            | ((with_reducible apply OpR.inc); (case hx => exact rfl); (case hy => exact rfl); (case h => omega))
            | exact OpR.r fun _ => rfl))
         | fail)
      refine ⟨q + 1, ?_, rfl, by omega, by omega⟩
      rw [n1, n2]; rfl
    ·
      have n1 := opn_miss hb c1
      by_cases c2 : b = 93 ∧ opn 93 l q < 0
      ·
        have n2 := opn_hit hb c2.1 c2.2
        have hb93 : (b.toNat : Int) = 93 := by rw [c2.1]; rfl
        obtain ⟨_, ho⟩ := c2
        repeat' (first
           | (with_reducible apply EvK.seq)
           | (with_reducible apply EvK.block)
           | ((with_reducible apply EvK.text); (try case hm => exact rfl))
           | (with_reducible apply EvK.skip)
           | (with_reducible apply thenK_n)
           | ((with_reducible apply EvK.cond_t); (case hc => exact rfl))
           | ((with_reducible apply EvK.cond_f); (case hc => exact rfl))
           | ((with_reducible apply EvO.spd_t); (case hp => first | assumption | omega))
           | ((with_reducible apply EvO.spd_f); (case hp => first | assumption | omega))
           | ((with_reducible apply EvO.spd_yt); (case hp => first | assumption | omega))
           | (with_reducible apply EvO.nilT)
           | (with_reducible apply EvO.nilB)
           | ((with_reducible apply EvO.gf); (case hW => exact rfl))
           | ((with_reducible apply EvO.gt0); (case hW => exact rfl); (case hx => first
              | ((with_reducible apply OpR.mv); (conv => lhs; whnf); try exact rfl)
              | exact OpR.r fun _ => rfl))
           | ((with_reducible apply EvO.u0); (case hx => first
              | ((with_reducible apply OpR.mv); (conv => lhs; whnf); try exact rfl)
              | ((with_reducible apply OpR.asg); (conv => lhs; whnf); try exact rfl)
              | ((with_reducible apply OpR.pk_t); (case hc => exact rfl); (case h => (conv => lhs; whnf); try exact rfl))
              | ((with_reducible apply OpR.pk_f); (case hc => exact rfl); (case h => (conv => lhs; whnf); try exact rfl))
              | ((with_reducible apply OpR.six); (case hx => exact rfl); (case hi => exact rfl); (case hst => exact rfl); (case h0 => omega); (case hb => assumption))
              | ((with_reducible apply OpR.inc); (case hx => exact rfl); (case hy => exact rfl); (case h => omega))
              | exact OpR.r fun _ => rfl))
           | fail)
        refine ⟨q + 1, ?_, rfl, by omega, by omega⟩
        rw [n1, n2]; rfl
      ·
        have n2 := opn_miss hb c2
        have d1 : ¬ ((b.toNat : Int) = 91 ∧ opn 91 l q < 0) := fun h => c1 ⟨UInt8.toNat_inj.1 (by omega), h.2⟩
        have d2 : ¬ ((b.toNat : Int) = 93 ∧ opn 93 l q < 0) := fun h => c2 ⟨UInt8.toNat_inj.1 (by omega), h.2⟩
        repeat' (first
           | (with_reducible apply EvK.seq)
           | (with_reducible apply EvK.block)
           | ((with_reducible apply EvK.text); (try case hm => exact rfl))
           | (with_reducible apply EvK.skip)
           | (with_reducible apply thenK_n)
           | (with_reducible apply blockK_n)
           | ((with_reducible apply EvK.cond_t); (case hc => exact rfl))
           | ((with_reducible apply EvK.cond_f); (case hc => exact rfl))
           | ((with_reducible apply EvO.spd_t); (case hp => first | assumption | omega))
           | ((with_reducible apply EvO.spd_f); (case hp => first | assumption | omega))
           | ((with_reducible apply EvO.spd) <;> intro hq)
           | ((with_reducible apply EvO.spd_yf); (case hp => first | assumption | omega))
           | (with_reducible apply EvO.nilT)
           | ((with_reducible apply EvO.gf); (case hW => exact rfl))
           | ((with_reducible apply EvO.gt0); (case hW => exact rfl); (case hx => first
              | ((with_reducible apply OpR.mv); (conv => lhs; whnf); try exact rfl)
              | exact OpR.r fun _ => rfl))
           | ((with_reducible apply EvO.u0); (case hx => first
              | ((with_reducible apply OpR.mv); (conv => lhs; whnf); try exact rfl)
              | ((with_reducible apply OpR.asg); (conv => lhs; whnf); try exact rfl)
              | ((with_reducible apply OpR.pk_t); (case hc => exact rfl); (case h => (conv => lhs; whnf); try exact rfl))
              | ((with_reducible apply OpR.pk_f); (case hc => exact rfl); (case h => (conv => lhs; whnf); try exact rfl))
              | ((with_reducible apply OpR.six); (case hx => exact rfl); (case hi => exact rfl); (case hst => exact rfl); (case h0 => omega); (case hb => assumption))
              | ((with_reducible apply OpR.inc); (case hx => exact rfl); (case hy => exact rfl); (case h => omega))
              | exact OpR.r fun _ => rfl))
           | fail)
        all_goals first
          | (exfalso; omega)
          | (refine ⟨q + 1, ?_, rfl, by omega, by omega⟩; rw [n1, n2]; rfl)
  ·
    obtain rfl : q = l.length := by omega
    have e1 : opn 91 l l.length = if pos 91 l < l.length then (pos 91 l : Int) else -1 := rfl
    have e2 : opn 93 l l.length = if pos 93 l < l.length then (pos 93 l : Int) else -1 := rfl
    obtain ⟨o, ho⟩ : ∃ o, pos 91 l = o := ⟨_, rfl⟩
    obtain ⟨n, hn⟩ : ∃ n, pos 93 l = n := ⟨_, rfl⟩
    simp only [ho, hn] at h46 hw
    rw [ho, hn] at hc
    obtain ⟨c1, c2, c3⟩ := hc
    rw [if_pos (by omega), ho] at e1
    rw [if_pos (by omega), hn] at e2
    rw [e1, e2]
    have s1 : (bs l).extract o (n + 1) = bs ((l.drop o).take (n + 1 - o)) := by rw [bs_cut, List.drop_take]
    have s2 : (bs l).extract 0 o = bs (l.take o) := bs_take l o
    have s3 : (bs l).extract (n + 1) (bs l).size = bs (l.drop (n + 1)) := bs_drop l (n + 1)
    have s3' : (bs l).extract (((n : Int) + 1).toNat) (bs l).size = bs (l.drop (n + 1)) := by rw [show ((n : Int) + 1).toNat = n + 1 by omega]; exact s3
    have hp := rparse_c (l := (l.drop o).take (n + 1 - o)) (by simp; omega)
    have w1 := words32_c (l := l.take o) (by simp; omega)
    have w2 := words32_c (l := l.drop (n + 1)) (by simp; omega)
    have z1 := wordsR_lens (l.take o) (l.take o).length
    have z2 := wordsR_lens (l.drop (n + 1)) (l.drop (n + 1)).length
    rw [List.take_of_length_le (Nat.le_refl _)] at z1 z2
    have k1 : (l.take o).length ≤ 800 := by simp; omega
    have k2 : (l.drop (n + 1)).length ≤ 800 := by simp; omega
    have hpe : parE l = if (wordsR (l.take o)).length = 4 ∧ 6 ≤ (wordsR (l.drop (n + 1))).length ∧ fmtE (evrR l o n) = l then some (evrR l o n) else none := by
      unfold parE
      rw [ho, hn]
      by_cases h : (wordsR (l.take o)).length = 4 ∧ 6 ≤ (wordsR (l.drop (n + 1))).length ∧ fmtE (evrR l o n) = l
      · rw [if_pos h, if_pos ⟨⟨c1, c2, c3⟩, h⟩]
      · rw [if_neg h, if_neg (fun h' => h h'.2)]
    have hev : evrR l o n = { tailR (wordsR (l.drop (n + 1))) with r := numW ((wordsR (l.take o)).getD 0 []), n := numW ((wordsR (l.take o)).getD 1 []), t := numW ((wordsR (l.take o)).getD 2 []), past := (refP ((l.drop o).take (n + 1 - o))).getD [] } := rfl
    have hln : l ≠ [] := by rintro rfl; simp at c3
    obtain ⟨W1, hW1⟩ : ∃ W, wordsR (l.take o) = W := ⟨_, rfl⟩
    obtain ⟨W2, hW2⟩ : ∃ W, wordsR (l.drop (n + 1)) = W := ⟨_, rfl⟩
    obtain ⟨R, hR⟩ : ∃ R, refP ((l.drop o).take (n + 1 - o)) = R := ⟨_, rfl⟩
    rw [hW1] at w1 z1 hpe hev
    rw [hW2] at w2 z2 hpe hev
    rw [hR] at hp hev
    have wl1 := wsE_len W1
    have wl2 := wsE_len W2
    rw [hW1, hW2] at h46
    rw [hW2] at hw
    obtain ⟨h4', h6⟩ := h46
    obtain ⟨a0, a1, a2, a3, rfl⟩ := len4 h4'
    have na : a0.length ≤ 800 ∧ a1.length ≤ 800 ∧ a2.length ≤ 800 := ⟨by have := z1.2 a0 (by simp); omega, by have := z1.2 a1 (by simp); omega, by have := z1.2 a2 (by simp); omega⟩
    obtain ⟨na0, na1, na2⟩ := na
    have num : ∀ w ∈ W2, w.length ≤ 800 := fun w hw => by have := z2.2 w hw; omega
    have g0 : (wsE [a0, a1, a2, a3])[0]? = some [.str (bs a0)] := rfl
    have g1 : (wsE [a0, a1, a2, a3])[1]? = some [.str (bs a1)] := rfl
    have g2 : (wsE [a0, a1, a2, a3])[2]? = some [.str (bs a2)] := rfl
    have key : ∀ e, evrR l o n = e → parE l = if fmtE e = l then some e else none := by
      rintro e rfl
      rw [hpe]
      by_cases h : fmtE (evrR l o n) = l
      · rw [if_pos h, if_pos ⟨rfl, h6, h⟩]
      · rw [if_neg h, if_neg (fun h2 => h h2.2.2)]
    obtain ⟨t1, ht1⟩ : ∃ t, W2.getD 1 [] = t := ⟨_, rfl⟩
    have hb1 : (wsE W2)[1]? = some [.str (bs t1)] := wsE_get (by rw [← ht1, List.getD_eq_getElem?_getD, List.getElem?_eq_getElem (by omega)]; rfl)
    have hwNote : t1 = wNote ∧ W2.length = 6 := ⟨ht1.symm.trans hw.1, hw.2⟩
    obtain ⟨rfl, h7⟩ := hwNote
    obtain ⟨b0, b1, b2, b3, b4, b5, rfl⟩ := len6 h7
    have hb1' : b1 = wNote := ht1
    subst hb1'
    have ea : bs wNote = ⟨#[110, 111, 116, 101]⟩ := rfl
    have enwAction : ¬ bs wNote = ⟨#[97, 99, 116, 105, 111, 110]⟩ := by decide
    have nb3 := num b3 (by simp)
    have k3 : (wsE [b0, wNote, b2, b3, b4, b5])[3]? = some [.str (bs b3)] := rfl
    have nb5 := num b5 (by simp)
    have k5 : (wsE [b0, wNote, b2, b3, b4, b5])[5]? = some [.str (bs b5)] := rfl
    have wl2 : (wsE [b0, wNote, b2, b3, b4, b5]).length = 6 := rfl
    cases R with
    | none =>
      have hp : Cl cfg 65 [.t (.str (bs ((l.drop o).take (n + 1 - o))))] [] (.tup [.nil, .t (.int .i64 3)]) [] := hp
      have hE : evrR l o n = ⟨numW a0, numW a1, numW a2, [], 2, 0, 0, 0, 0, 0, 0, numW b3, numW b5⟩ := by rw [hev]; rfl
      have hf := rformat32_c (⟨numW a0, numW a1, numW a2, [], 2, 0, 0, 0, 0, 0, 0, numW b3, numW b5⟩) (by simp)
      rw [fmtE_past rfl] at hf
      have hpn : parE l = none := by rw [key _ hE, fmtE_past rfl, if_neg (fun h => hln h.symm)]
      have hfe : ¬ bs [] = bs l := fun h => hln (bs_inj h).symm
      rw [hpn]
      repeat' (first
         | (with_reducible apply EvK.seq)
         | (with_reducible apply EvK.block)
         | ((with_reducible apply EvK.text); (try case hm => exact rfl))
         | ((with_reducible apply EvK.drawn); (case hm => exact rfl))
         | ((with_reducible apply EvK.drawnF); (case hm => exact rfl))
         | (with_reducible apply EvK.skip)
         | (with_reducible apply EvK.exit)
         | (with_reducible apply EvK.ret)
         | (with_reducible apply thenK_n)
         | (with_reducible apply thenK_e)
         | (with_reducible apply thenK_r)
         | (with_reducible apply blockK_h)
         | ((with_reducible apply EvK.cond_t); (case hc => exact rfl))
         | ((with_reducible apply EvK.cond_f); (case hc => exact rfl))
         | ((with_reducible apply EvO.spd_t); (case hp => first | assumption | omega))
         | ((with_reducible apply EvO.spd_f); (case hp => first | assumption | omega))
         | ((with_reducible apply EvO.spn_t); (case hp => first | assumption | omega))
         | ((with_reducible apply EvO.spn_f); (case hp => first | assumption | omega))
         | ((with_reducible apply EvO.spd_yt); (case hp => first | assumption | omega))
         | ((with_reducible apply EvO.spd_yf); (case hp => first | assumption | omega))
         | (with_reducible apply EvO.nilT)
         | (with_reducible apply EvO.nilB)
         | ((with_reducible apply EvO.gf); (case hW => exact rfl))
         | (with_reducible apply EvOF.nilT)
         | ((with_reducible apply EvOF.u); (case hfl => kernel_rfl); (case hx => first
            | ((with_reducible apply OpR.mv); (conv => lhs; whnf); try exact rfl)
            | ((with_reducible apply OpR.callF); (case hcal => exact rfl); (case hav => exact rfl); (case hx => exact rfl); (case hh => exact rfl); (case hm => exact rfl); (case hcl => exact number32_c (by omega)); (case hr => exact rfl))
            | ((with_reducible apply OpR.ix); (case he => first | (with_reducible exact el0) | (with_reducible exact el1) | (with_reducible exact el2) | (with_reducible exact el3) | (with_reducible exact el4) | (with_reducible exact el5) | (with_reducible exact el6) | (with_reducible exact el7) | exact rfl); (case hx => exact rfl); (case hi => exact rfl); (case hc => assumption); (case hz => exact rfl))
            | ((with_reducible apply OpR.al); (case hs => exact fun _ => rfl); (case hz => exact rfl); (case hc => (repeat' (first | exact LEq.nil | ((with_reducible apply LEq.cons); (case h => (conv => lhs; whnf); try exact rfl)) | (apply LEq.cons; (case h => (conv => lhs; whnf); try exact rfl))))); (case hn => (first | exact ln0 | exact ln1 | exact ln2 | exact ln3 | exact ln4 | exact ln5 | exact ln6 | exact ln7 | exact ln8 | exact ln9 | exact ln10 | exact ln11 | exact ln12 | exact ln13 | exact ln14)); (case hf => (repeat' (first | exact LEq.nil | ((with_reducible apply LEq.cons); (case h => (conv => lhs; whnf); try exact rfl)) | (apply LEq.cons; (case h => (conv => lhs; whnf); try exact rfl))))))
            | ((with_reducible apply OpR.sto); (case hs => exact fun _ => rfl); (case ha => exact rfl); (case hy => exact rfl); (case ht => first | (with_reducible exact sz0) | (with_reducible exact sz1) | (with_reducible exact sz2) | (with_reducible exact sz3) | (with_reducible exact sz4) | (with_reducible exact sz5) | (with_reducible exact sz6) | (with_reducible exact sz7) | (with_reducible exact sz8) | (with_reducible exact sz9) | exact rfl); (case hv => exact rfl); (case ho => kernel_rfl); (case hb => exact rfl); (case hc => kernel_rfl); (case hd => (repeat' (first | exact LEq.nil | ((with_reducible apply LEq.cons); (case h => (conv => lhs; whnf); try exact rfl)) | (apply LEq.cons; (case h => (conv => lhs; whnf); try exact rfl))))); (case hf => (repeat' (first | exact LEq.nil | ((with_reducible apply LEq.cons); (case h => (conv => lhs; whnf); try exact rfl)) | (apply LEq.cons; (case h => (conv => lhs; whnf); try exact rfl))))))
            | exact OpR.r fun _ => rfl))
         | ((with_reducible apply EvO.gt0); (case hW => exact rfl); (case hx => first
            | ((with_reducible apply OpR.mv); (conv => lhs; whnf); try exact rfl)
            | ((with_reducible apply OpR.add); (case hx => exact rfl); (case hy => exact rfl); (case h => omega))
            | ((with_reducible apply OpR.len); (case ha => exact rfl); (case hy => exact rfl); (case ht => exact rfl); (case hs => exact rfl); (case hn => first | exact List.length_map _ | exact rfl))
            | exact OpR.r fun _ => rfl))
         | ((with_reducible apply EvO.u0); (case hx => first
            | ((with_reducible apply OpR.mv); (conv => lhs; whnf); try exact rfl)
            | ((with_reducible apply OpR.asg); (conv => lhs; whnf); try exact rfl)
            | ((with_reducible apply OpR.pk_t); (case hc => exact rfl); (case h => (conv => lhs; whnf); try exact rfl))
            | ((with_reducible apply OpR.pk_f); (case hc => exact rfl); (case h => (conv => lhs; whnf); try exact rfl))
            | ((with_reducible apply OpR.ssl); (case hst => exact rfl); (case hx => exact rfl); (case hl => exact rfl); (case hh => exact rfl); (case hlh => omega); (case hhs => omega); (case hv => exact s1))
            | ((with_reducible apply OpR.shi); (case hst => exact rfl); (case hx => exact rfl); (case hh => exact rfl); (case hhs => first | assumption | omega); (case hv => exact s2))
            | ((with_reducible apply OpR.slo); (case hst => exact rfl); (case hx => exact rfl); (case hl => exact rfl); (case h0 => omega); (case hls => first | assumption | omega); (case hv => exact s3'))
            | ((with_reducible apply OpR.callF); (case hcal => exact rfl); (case hav => exact rfl); (case hx => exact rfl); (case hh => exact rfl); (case hm => exact rfl); (case hcl => exact hp); (case hr => exact rfl))
            | ((with_reducible apply OpR.call); (case hcal => exact rfl); (case hav => exact rfl); (case hx => exact rfl); (case hh => exact rfl); (case hm => exact rfl); (case hcl => exact w1); (case hr => exact rfl))
            | ((with_reducible apply OpR.call); (case hcal => exact rfl); (case hav => exact rfl); (case hx => exact rfl); (case hh => exact rfl); (case hm => exact rfl); (case hcl => exact w2); (case hr => exact rfl))
            | ((with_reducible apply OpR.callF); (case hcal => exact rfl); (case hav => exact rfl); (case hx => exact rfl); (case hh => exact rfl); (case hm => exact rfl); (case hcl => exact number32_c (by omega)); (case hr => exact rfl))
            | ((with_reducible apply OpR.callF); (case hcal => exact rfl); (case hav => exact rfl); (case hx => exact rfl); (case hh => exact rfl); (case hm => exact rfl); (case hcl => exact hf); (case hr => exact rfl))
            | ((with_reducible apply OpR.inc); (case hx => exact rfl); (case hy => exact rfl); (case h => omega))
            | ((with_reducible apply OpR.len); (case ha => exact rfl); (case hy => exact rfl); (case ht => exact rfl); (case hs => exact rfl); (case hn => first | exact List.length_map _ | exact rfl))
            | ((with_reducible apply OpR.ix); (case he => first | (with_reducible exact el0) | (with_reducible exact el1) | (with_reducible exact el2) | (with_reducible exact el3) | (with_reducible exact el4) | (with_reducible exact el5) | (with_reducible exact el6) | (with_reducible exact el7) | exact rfl); (case hx => exact rfl); (case hi => exact rfl); (case hc => assumption); (case hz => exact rfl))
            | ((with_reducible apply OpR.fal); (case hy => exact rfl); (case ho => exact rfl); (case hn => (conv => lhs; whnf); try exact rfl))
            | ((with_reducible apply OpR.sto); (case hs => exact fun _ => rfl); (case ha => exact rfl); (case hy => exact rfl); (case ht => first | (with_reducible exact sz0) | (with_reducible exact sz1) | (with_reducible exact sz2) | (with_reducible exact sz3) | (with_reducible exact sz4) | (with_reducible exact sz5) | (with_reducible exact sz6) | (with_reducible exact sz7) | (with_reducible exact sz8) | (with_reducible exact sz9) | exact rfl); (case hv => exact rfl); (case ho => kernel_rfl); (case hb => exact rfl); (case hc => kernel_rfl); (case hd => (repeat' (first | exact LEq.nil | ((with_reducible apply LEq.cons); (case h => (conv => lhs; whnf); try exact rfl)) | (apply LEq.cons; (case h => (conv => lhs; whnf); try exact rfl))))); (case hf => (repeat' (first | exact LEq.nil | ((with_reducible apply LEq.cons); (case h => (conv => lhs; whnf); try exact rfl)) | (apply LEq.cons; (case h => (conv => lhs; whnf); try exact rfl))))))
            | ((with_reducible apply OpR.lda); (case hy => exact rfl); (case ht => first | (with_reducible exact sz0) | (with_reducible exact sz1) | (with_reducible exact sz2) | (with_reducible exact sz3) | (with_reducible exact sz4) | (with_reducible exact sz5) | (with_reducible exact sz6) | (with_reducible exact sz7) | (with_reducible exact sz8) | (with_reducible exact sz9)); (case hb => exact rfl); (case hl => kernel_rfl); (case hv => (repeat' (first | exact LEq.nil | ((with_reducible apply LEq.cons); (case h => (conv => lhs; whnf); try exact rfl)) | (apply LEq.cons; (case h => (conv => lhs; whnf); try exact rfl))))); (case hx => (conv => lhs; whnf); try exact rfl))
            | exact OpR.r fun _ => rfl))
         | fail)
      all_goals exact ⟨.inr rfl, rfl⟩
    | some c =>
      have hp : Cl cfg 65 [.t (.str (bs ((l.drop o).take (n + 1 - o))))] [] (.tup [.ls 0, .t (.int .i64 0)]) [.row false false 1 (intsE c)] := hp
      have hcl : c.length ≤ 1000 := refP_len hR
      have hE : evrR l o n = ⟨numW a0, numW a1, numW a2, c, 2, 0, 0, 0, 0, 0, 0, numW b3, numW b5⟩ := by rw [hev]; rfl
      have hf := rformat32_c (⟨numW a0, numW a1, numW a2, c, 2, 0, 0, 0, 0, 0, 0, numW b3, numW b5⟩) hcl
      have hpk := key _ hE
      obtain ⟨F, hF⟩ : ∃ F, fmtE (⟨numW a0, numW a1, numW a2, c, 2, 0, 0, 0, 0, 0, 0, numW b3, numW b5⟩) = F := ⟨_, rfl⟩
      rw [hF] at hf hpk
      repeat' (first
         | (with_reducible apply EvK.seq)
         | (with_reducible apply EvK.block)
         | ((with_reducible apply EvK.text); (try case hm => exact rfl))
         | ((with_reducible apply EvK.drawn); (case hm => exact rfl))
         | ((with_reducible apply EvK.drawnF); (case hm => exact rfl))
         | (with_reducible apply EvK.skip)
         | (with_reducible apply EvK.exit)
         | (with_reducible apply EvK.ret)
         | (with_reducible apply thenK_n)
         | (with_reducible apply thenK_e)
         | (with_reducible apply thenK_r)
         | (with_reducible apply blockK_h)
         | ((with_reducible apply EvK.cond_t); (case hc => exact rfl))
         | ((with_reducible apply EvK.cond_f); (case hc => exact rfl))
         | ((with_reducible apply EvO.spd_t); (case hp => first | assumption | omega))
         | ((with_reducible apply EvO.spd_f); (case hp => first | assumption | omega))
         | ((with_reducible apply EvO.spn_f); (case hp => first | assumption | omega))
         | ((with_reducible apply EvO.spn) <;> intro hq)
         | ((with_reducible apply EvO.spd_yt); (case hp => first | assumption | omega))
         | ((with_reducible apply EvO.spd_yf); (case hp => first | assumption | omega))
         | (with_reducible apply EvO.nilT)
         | (with_reducible apply EvO.nilB)
         | ((with_reducible apply EvO.gf); (case hW => exact rfl))
         | (with_reducible apply EvOF.nilT)
         | ((with_reducible apply EvOF.u); (case hfl => kernel_rfl); (case hx => first
            | ((with_reducible apply OpR.mv); (conv => lhs; whnf); try exact rfl)
            | ((with_reducible apply OpR.callF); (case hcal => exact rfl); (case hav => exact rfl); (case hx => exact rfl); (case hh => exact rfl); (case hm => exact rfl); (case hcl => exact number32_c (by omega)); (case hr => exact rfl))
            | ((with_reducible apply OpR.ix); (case he => first | (with_reducible exact el0) | (with_reducible exact el1) | (with_reducible exact el2) | (with_reducible exact el3) | (with_reducible exact el4) | (with_reducible exact el5) | (with_reducible exact el6) | (with_reducible exact el7) | exact rfl); (case hx => exact rfl); (case hi => exact rfl); (case hc => assumption); (case hz => exact rfl))
            | ((with_reducible apply OpR.al); (case hs => exact fun _ => rfl); (case hz => exact rfl); (case hc => (repeat' (first | exact LEq.nil | ((with_reducible apply LEq.cons); (case h => (conv => lhs; whnf); try exact rfl)) | (apply LEq.cons; (case h => (conv => lhs; whnf); try exact rfl))))); (case hn => (first | exact ln0 | exact ln1 | exact ln2 | exact ln3 | exact ln4 | exact ln5 | exact ln6 | exact ln7 | exact ln8 | exact ln9 | exact ln10 | exact ln11 | exact ln12 | exact ln13 | exact ln14)); (case hf => (repeat' (first | exact LEq.nil | ((with_reducible apply LEq.cons); (case h => (conv => lhs; whnf); try exact rfl)) | (apply LEq.cons; (case h => (conv => lhs; whnf); try exact rfl))))))
            | ((with_reducible apply OpR.sto); (case hs => exact fun _ => rfl); (case ha => exact rfl); (case hy => exact rfl); (case ht => first | (with_reducible exact sz0) | (with_reducible exact sz1) | (with_reducible exact sz2) | (with_reducible exact sz3) | (with_reducible exact sz4) | (with_reducible exact sz5) | (with_reducible exact sz6) | (with_reducible exact sz7) | (with_reducible exact sz8) | (with_reducible exact sz9) | exact rfl); (case hv => exact rfl); (case ho => kernel_rfl); (case hb => exact rfl); (case hc => kernel_rfl); (case hd => (repeat' (first | exact LEq.nil | ((with_reducible apply LEq.cons); (case h => (conv => lhs; whnf); try exact rfl)) | (apply LEq.cons; (case h => (conv => lhs; whnf); try exact rfl))))); (case hf => (repeat' (first | exact LEq.nil | ((with_reducible apply LEq.cons); (case h => (conv => lhs; whnf); try exact rfl)) | (apply LEq.cons; (case h => (conv => lhs; whnf); try exact rfl))))))
            | exact OpR.r fun _ => rfl))
         | ((with_reducible apply EvO.gt0); (case hW => exact rfl); (case hx => first
            | ((with_reducible apply OpR.mv); (conv => lhs; whnf); try exact rfl)
            | ((with_reducible apply OpR.add); (case hx => exact rfl); (case hy => exact rfl); (case h => omega))
            | ((with_reducible apply OpR.len); (case ha => exact rfl); (case hy => exact rfl); (case ht => exact rfl); (case hs => exact rfl); (case hn => first | exact List.length_map _ | exact rfl))
            | exact OpR.r fun _ => rfl))
         | ((with_reducible apply EvO.u0); (case hx => first
            | ((with_reducible apply OpR.mv); (conv => lhs; whnf); try exact rfl)
            | ((with_reducible apply OpR.asg); (conv => lhs; whnf); try exact rfl)
            | ((with_reducible apply OpR.pk_t); (case hc => exact rfl); (case h => (conv => lhs; whnf); try exact rfl))
            | ((with_reducible apply OpR.pk_f); (case hc => exact rfl); (case h => (conv => lhs; whnf); try exact rfl))
            | ((with_reducible apply OpR.ssl); (case hst => exact rfl); (case hx => exact rfl); (case hl => exact rfl); (case hh => exact rfl); (case hlh => omega); (case hhs => omega); (case hv => exact s1))
            | ((with_reducible apply OpR.shi); (case hst => exact rfl); (case hx => exact rfl); (case hh => exact rfl); (case hhs => first | assumption | omega); (case hv => exact s2))
            | ((with_reducible apply OpR.slo); (case hst => exact rfl); (case hx => exact rfl); (case hl => exact rfl); (case h0 => omega); (case hls => first | assumption | omega); (case hv => exact s3'))
            | ((with_reducible apply OpR.callX); (case hcal => exact rfl); (case hav => exact rfl); (case hx => exact rfl); (case hh => exact rfl); (case hm => exact rfl); (case hcl => exact hp); (case hr => exact rfl); (case hd => exact rfl); (case hq => kernel_rfl); (case hn => (first | exact ln0 | exact ln1 | exact ln2 | exact ln3 | exact ln4 | exact ln5 | exact ln6 | exact ln7 | exact ln8 | exact ln9 | exact ln10 | exact ln11 | exact ln12 | exact ln13 | exact ln14)); (case hv => (conv => lhs; whnf); try exact rfl); (case he => (repeat' (first | exact XFr.nil | (with_reducible apply XFr.row) | (with_reducible apply XFr.boxt) | ((apply XFr.box); (case hd => (repeat' (first | exact LEq.nil | ((with_reducible apply LEq.cons); (case h => (conv => lhs; whnf); try exact rfl)) | (apply LEq.cons; (case h => (conv => lhs; whnf); try exact rfl))))))))); (case hf => (repeat' (first | exact LEq.nil | ((with_reducible apply LEq.cons); (case h => (conv => lhs; whnf); try exact rfl)) | (apply LEq.cons; (case h => (conv => lhs; whnf); try exact rfl))))))
            | ((with_reducible apply OpR.call); (case hcal => exact rfl); (case hav => exact rfl); (case hx => exact rfl); (case hh => exact rfl); (case hm => exact rfl); (case hcl => exact w1); (case hr => exact rfl))
            | ((with_reducible apply OpR.call); (case hcal => exact rfl); (case hav => exact rfl); (case hx => exact rfl); (case hh => exact rfl); (case hm => exact rfl); (case hcl => exact w2); (case hr => exact rfl))
            | ((with_reducible apply OpR.callF); (case hcal => exact rfl); (case hav => exact rfl); (case hx => exact rfl); (case hh => exact rfl); (case hm => exact rfl); (case hcl => exact number32_c (by omega)); (case hr => exact rfl))
            | ((with_reducible apply OpR.callF); (case hcal => exact rfl); (case hav => exact rfl); (case hx => exact rfl); (case hh => exact rfl); (case hm => exact rfl); (case hcl => exact hf); (case hr => exact rfl))
            | ((with_reducible apply OpR.inc); (case hx => exact rfl); (case hy => exact rfl); (case h => omega))
            | ((with_reducible apply OpR.len); (case ha => exact rfl); (case hy => exact rfl); (case ht => exact rfl); (case hs => exact rfl); (case hn => first | exact List.length_map _ | exact rfl))
            | ((with_reducible apply OpR.ix); (case he => first | (with_reducible exact el0) | (with_reducible exact el1) | (with_reducible exact el2) | (with_reducible exact el3) | (with_reducible exact el4) | (with_reducible exact el5) | (with_reducible exact el6) | (with_reducible exact el7) | exact rfl); (case hx => exact rfl); (case hi => exact rfl); (case hc => assumption); (case hz => exact rfl))
            | ((with_reducible apply OpR.fal); (case hy => exact rfl); (case ho => exact rfl); (case hn => (conv => lhs; whnf); try exact rfl))
            | ((with_reducible apply OpR.sto); (case hs => exact fun _ => rfl); (case ha => exact rfl); (case hy => exact rfl); (case ht => first | (with_reducible exact sz0) | (with_reducible exact sz1) | (with_reducible exact sz2) | (with_reducible exact sz3) | (with_reducible exact sz4) | (with_reducible exact sz5) | (with_reducible exact sz6) | (with_reducible exact sz7) | (with_reducible exact sz8) | (with_reducible exact sz9) | exact rfl); (case hv => exact rfl); (case ho => kernel_rfl); (case hb => exact rfl); (case hc => kernel_rfl); (case hd => (repeat' (first | exact LEq.nil | ((with_reducible apply LEq.cons); (case h => (conv => lhs; whnf); try exact rfl)) | (apply LEq.cons; (case h => (conv => lhs; whnf); try exact rfl))))); (case hf => (repeat' (first | exact LEq.nil | ((with_reducible apply LEq.cons); (case h => (conv => lhs; whnf); try exact rfl)) | (apply LEq.cons; (case h => (conv => lhs; whnf); try exact rfl))))))
            | ((with_reducible apply OpR.lda); (case hy => exact rfl); (case ht => first | (with_reducible exact sz0) | (with_reducible exact sz1) | (with_reducible exact sz2) | (with_reducible exact sz3) | (with_reducible exact sz4) | (with_reducible exact sz5) | (with_reducible exact sz6) | (with_reducible exact sz7) | (with_reducible exact sz8) | (with_reducible exact sz9)); (case hb => exact rfl); (case hl => kernel_rfl); (case hv => (repeat' (first | exact LEq.nil | ((with_reducible apply LEq.cons); (case h => (conv => lhs; whnf); try exact rfl)) | (apply LEq.cons; (case h => (conv => lhs; whnf); try exact rfl))))); (case hx => (conv => lhs; whnf); try exact rfl))
            | exact OpR.r fun _ => rfl))
         | fail)
      all_goals first
        | (rw [hpk, if_pos (bs_inj hq)]; exact ⟨.inr rfl, rfl⟩)
        | (rw [hpk, if_neg (fun h => hq (by rw [h]))]; exact ⟨.inr rfl, rfl⟩)
end Go.Proofs.YtgbfedgghjcdcaaGreatDoor
