/- Law 32: the reference's text of an event; its words and numbers. No condition. -/
import Derived.Test.YtgbfedgghjcdcaaGreatDoorEE0
import Derived.Test.YtgbfedgghjcdcaaGreatDoorVLR
import Derived.Test.YtgbfedgghjcdcaaGreatDoorSpecW
namespace Go.Proofs.YtgbfedgghjcdcaaGreatDoor
set_option linter.unusedSimpArgs false
set_option linter.unusedVariables false
set_option linter.unusedSectionVars false
open Go.RowKit
set_option maxRecDepth 100000
set_option maxHeartbeats 16000000

theorem dec_len3 {n : Nat} (h : n ≤ 9999999999) : (Lib.decDigits n).length ≤ 10 := by
  rw [Lib.decDigits_length]
  exact nDigits_le 10 _ (by omega) (by omega)
theorem dec_nat3 (N : Nat) : ∀ (n : Nat), n ≤ N → n ≤ 9999999999 → Cl cfg 111 [.t (.int .i64 (n : Int))] [] (.t (.str (bs (Lib.decDigits n)))) [] := by
  induction N with
  | zero =>
    intro n hN hb
    obtain rfl : n = 0 := by omega
    exact ⟨3, by kernel_rfl⟩
  | succ N ih =>
    intro n hN hb
    have hd : (⟨#[48, 49, 50, 51, 52, 53, 54, 55, 56, 57]⟩ : ByteArray).extract (n % 10) (n % 10 + 1) = bs [UInt8.ofNat (48 + n % 10)] := dig10 ⟨n % 10, by omega⟩
    have hr : (n : Int).tmod 10 = ((n % 10 : Nat) : Int) := by rw [Int.tmod_eq_emod_of_nonneg (by omega)]; omega
    have hq : (n : Int).tdiv 10 = ((n / 10 : Nat) : Int) := by rw [Int.tdiv_eq_ediv_of_nonneg (by omega)]; omega
    have hsz : (⟨#[48, 49, 50, 51, 52, 53, 54, 55, 56, 57]⟩ : ByteArray).size = 10 := rfl
    have hi := ih (n / 10)
    have hl1 := dec_len3 (n := n / 10) (by omega)
    have hs1 : (bs (Lib.decDigits (n / 10))).size ≤ 10 := by rw [bs_size]; exact hl1
    have hs2 : (bs [UInt8.ofNat (48 + n % 10)]).size = 1 := by rw [bs_size]; rfl
    refine Cl.of_body rfl Tryz.func111 rfl rfl rfl ?_
    by_cases h10 : n < 10
    ·
      have hx : Lib.decDigits n = [UInt8.ofNat (48 + n % 10)] := by rw [Lib.decDigits_one h10, Nat.mod_eq_of_lt h10]
      rw [hx]
      repeat' (first
         | (with_reducible apply EvK.seq)
         | (with_reducible apply EvK.block)
         | ((with_reducible apply EvK.text); (try case hm => exact rfl))
         | (with_reducible apply EvK.skip)
         | (with_reducible apply EvK.ret)
         | (with_reducible apply thenK_n)
         | (with_reducible apply thenK_r)
         | (with_reducible apply blockK_r)
         | ((with_reducible apply EvK.cond_t); (case hc => exact rfl))
         | ((with_reducible apply EvK.cond_f); (case hc => exact rfl))
         | ((with_reducible apply EvO.spd_t); (case hp => first | assumption | omega))
         | ((with_reducible apply EvO.spd_f); (case hp => first | assumption | omega))
         | ((with_reducible apply EvO.spd_yt); (case hp => first | assumption | omega))
         | (with_reducible apply EvO.nilT)
         | ((with_reducible apply EvO.gf); (case hW => exact rfl))
         | ((with_reducible apply EvO.gt0); (case hW => exact rfl); (case hx => first
            | ((with_reducible apply OpR.mv); (conv => lhs; whnf); try exact rfl)
            | exact OpR.r fun _ => rfl))
         | ((with_reducible apply EvO.u0); (case hx => first
            | ((with_reducible apply OpR.mv); (conv => lhs; whnf); try exact rfl)
            | ((with_reducible apply OpR.asg); (conv => lhs; whnf); try exact rfl)
            | ((with_reducible apply OpR.pk_t); (case hc => exact rfl); (case h => (conv => lhs; whnf); try exact rfl))
            | ((with_reducible apply OpR.pk_f); (case hc => exact rfl); (case h => (conv => lhs; whnf); try exact rfl))
            | ((with_reducible apply OpR.remv); (case hx => exact rfl); (case hy => exact rfl); (case hn => omega); (case h => exact hr))
            | ((with_reducible apply OpR.ssl); (case hst => exact rfl); (case hx => exact rfl); (case hl => exact rfl); (case hh => exact rfl); (case hlh => omega); (case hhs => omega); (case hv => exact hd))
            | ((with_reducible apply OpR.inc); (case hx => exact rfl); (case hy => exact rfl); (case h => omega))
            | exact OpR.r fun _ => rfl))
         | fail)
      exact ⟨.inr rfl, rfl⟩
    ·
      rw [dec_big h10, ← bs_app]
      repeat' (first
         | (with_reducible apply EvK.seq)
         | (with_reducible apply EvK.block)
         | ((with_reducible apply EvK.text); (try case hm => exact rfl))
         | (with_reducible apply EvK.skip)
         | (with_reducible apply EvK.ret)
         | (with_reducible apply thenK_n)
         | (with_reducible apply blockK_n)
         | ((with_reducible apply EvK.cond_f); (case hc => exact rfl))
         | ((with_reducible apply EvO.spd_t); (case hp => first | assumption | omega))
         | ((with_reducible apply EvO.spd_f); (case hp => first | assumption | omega))
         | ((with_reducible apply EvO.spd_yf); (case hp => first | assumption | omega))
         | (with_reducible apply EvO.nilT)
         | ((with_reducible apply EvO.gf); (case hW => exact rfl))
         | ((with_reducible apply EvO.gt0); (case hW => exact rfl); (case hx => first
            | ((with_reducible apply OpR.mv); (conv => lhs; whnf); try exact rfl)
            | exact OpR.r fun _ => rfl))
         | ((with_reducible apply EvO.u0); (case hx => first
            | ((with_reducible apply OpR.mv); (conv => lhs; whnf); try exact rfl)
            | ((with_reducible apply OpR.asg); (conv => lhs; whnf); try exact rfl)
            | ((with_reducible apply OpR.pk_t); (case hc => exact rfl); (case h => (conv => lhs; whnf); try exact rfl))
            | ((with_reducible apply OpR.pk_f); (case hc => exact rfl); (case h => (conv => lhs; whnf); try exact rfl))
            | ((with_reducible apply OpR.remv); (case hx => exact rfl); (case hy => exact rfl); (case hn => omega); (case h => exact hr))
            | ((with_reducible apply OpR.quov); (case hx => exact rfl); (case hy => exact rfl); (case hn => omega); (case h => exact hq); (case hb => omega))
            | ((with_reducible apply OpR.ssl); (case hst => exact rfl); (case hx => exact rfl); (case hl => exact rfl); (case hh => exact rfl); (case hlh => omega); (case hhs => omega); (case hv => exact hd))
            | ((with_reducible apply OpR.callF); (case hcal => exact rfl); (case hav => exact rfl); (case hx => exact rfl); (case hh => exact rfl); (case hm => exact rfl); (case hcl => exact hi (by omega) (by omega)); (case hr => exact rfl))
            | ((with_reducible apply OpR.inc); (case hx => exact rfl); (case hy => exact rfl); (case h => omega))
            | ((with_reducible apply OpR.ads); (case hx => exact rfl); (case hy => exact rfl); (case h => first | assumption | omega))
            | exact OpR.r fun _ => rfl))
         | fail)
      exact ⟨.inr rfl, rfl⟩
theorem dec3_c {n : Int} (h0 : 0 ≤ n) (h1 : n ≤ 9999999999) : Cl cfg 111 [.t (.int .i64 n)] [] (.t (.str (bs (Lib.itoa n)))) [] := by
  obtain ⟨k, rfl⟩ := Int.eq_ofNat_of_zero_le h0
  have := dec_nat3 k k (Nat.le_refl _) (by omega)
  rwa [Lib.itoa, if_neg (by omega), Int.toNat_natCast]
theorem decimal_c {n : Int} (h0 : 0 ≤ n) (h1 : n ≤ 9999999999) : Cl cfg 71 [.t (.int .i64 n)] [] (.t (.str (bs (Lib.itoa n)))) [] := by
  have h := dec3_c h0 h1
  refine Cl.of_body rfl Tryz.func71 rfl rfl rfl ?_
  repeat' (first
     | (with_reducible apply EvK.seq)
     | ((with_reducible apply EvK.text); (try case hm => exact rfl))
     | (with_reducible apply EvK.ret)
     | (with_reducible apply EvO.nilT)
     | ((with_reducible apply EvO.u0); (case hx => first
        | ((with_reducible apply OpR.mv); (conv => lhs; whnf); try exact rfl)
        | ((with_reducible apply OpR.asg); (conv => lhs; whnf); try exact rfl)
        | ((with_reducible apply OpR.callF); (case hcal => exact rfl); (case hav => exact rfl); (case hx => exact rfl); (case hh => exact rfl); (case hm => exact rfl); (case hcl => exact h); (case hr => exact rfl))))
     | fail)
  exact ⟨.inr rfl, rfl⟩
theorem fin_s {fr : Fr} {o : Out} {m : Nat} {s : Option SV} {b b' : ByteArray} {fr' : Fr} (ho : o = .normal ∨ o = .ret) (h : finO m s fr = some (.t (.str b), fr')) (e : b = b') : (o = .normal ∨ o = .ret) ∧ finO m s fr = some (.t (.str b'), fr') := ⟨ho, by rw [h, e]⟩
theorem szl (l : List UInt8) : (⟨⟨l⟩⟩ : ByteArray).size = l.length := rfl
theorem lbs (l : List UInt8) : (⟨⟨l⟩⟩ : ByteArray) = bs l := rfl
theorem rformat32_c (e : Ev) (hl : e.past.length ≤ 1000) : Cl cfg 23 [.t (evA e)] [] (.t (.str (bs (fmtE e)))) [] := by
  have hF := rformed_c e (by omega)
  refine Cl.of_body rfl Tryz.func23 rfl rfl rfl ?_
  cases hf : formB e with
  | false =>
    have h0 : fmtE e = [] := by simp [fmtE, hf]
    rw [h0]
    rw [hf] at hF
    repeat' (first
       | (with_reducible apply EvK.seq)
       | ((with_reducible apply EvK.text); (try case hm => exact rfl))
       | (with_reducible apply EvK.ret)
       | (with_reducible apply thenK_r)
       | ((with_reducible apply EvK.cond_t); (case hc => exact rfl))
       | (with_reducible apply EvO.nilT)
       | ((with_reducible apply EvO.u0); (case hx => first
          | ((with_reducible apply OpR.asg); (conv => lhs; whnf); try exact rfl)
          | ((with_reducible apply OpR.callF); (case hcal => exact rfl); (case hav => exact rfl); (case hx => exact rfl); (case hh => exact rfl); (case hm => exact rfl); (case hcl => exact hF); (case hr => exact rfl))
          | ((with_reducible apply OpR.bxt); (case hs => exact fun _ => rfl); (case hy => exact rfl); (case ho => kernel_rfl); (case hn => (first | exact ln0 | exact ln1 | exact ln2 | exact ln3 | exact ln4 | exact ln5 | exact ln6 | exact ln7 | exact ln8 | exact ln9 | exact ln10 | exact ln11 | exact ln12 | exact ln13 | exact ln14)); (case hf => (repeat' (first | exact LEq.nil | ((with_reducible apply LEq.cons); (case h => (conv => lhs; whnf); try exact rfl)) | (apply LEq.cons; (case h => (conv => lhs; whnf); try exact rfl))))))
          | ((with_reducible apply OpR.ldw); (case hy => exact rfl); (case ht => first | (with_reducible exact sz0) | (with_reducible exact sz1) | (with_reducible exact sz2) | (with_reducible exact sz3) | (with_reducible exact sz4) | (with_reducible exact sz5) | (with_reducible exact sz6) | (with_reducible exact sz7) | (with_reducible exact sz8) | (with_reducible exact sz9)); (case hb => exact rfl); (case hl => kernel_rfl))
          | exact OpR.r fun _ => rfl))
       | fail)
    exact ⟨.inr rfl, rfl⟩
  | true =>
    rw [hf] at hF
    obtain ⟨hv, r0, r1, n0, n1, t0, t1, hk, k0, k2, k1⟩ := rng_of hf
    have hcf := rformat_c hv
    have hcl := fmtS_len60 hv
    have lr := itoa_len10 r0 (by omega)
    have ln := itoa_len10 n0 (by omega)
    have lt := itoa_len10 t0 t1
    by_cases h0 : e.k = 0
    ·
      obtain ⟨⟨a0, a1, p0, p1, s0, s1⟩, _⟩ := k0 h0
      have la := itoa_len10 a0 (by omega)
      have lp := itoa_len10 p0 (by omega)
      have ls := itoa_len10 s0 (by omega)
      have hfe : fmtE e = Lib.join [Lib.itoa e.r, Lib.itoa e.n, Lib.itoa e.t, fmtS e.past, wAction, Lib.itoa e.a, wPlace, Lib.itoa e.pl, wSerial, Lib.itoa e.se] [32] := by unfold fmtE tailW; rw [if_pos hf, if_pos h0]; rfl
      rw [hfe]
      repeat' (first
         | (with_reducible apply EvK.seq)
         | (with_reducible apply EvK.block)
         | ((with_reducible apply EvK.text); (try case hm => exact rfl))
         | ((with_reducible apply EvK.drawn); (case hm => exact rfl))
         | (with_reducible apply EvK.skip)
         | (with_reducible apply EvK.ret)
         | (with_reducible apply thenK_n)
         | (with_reducible apply thenK_r)
         | (with_reducible apply blockK_r)
         | ((with_reducible apply EvK.cond_t); (case hc => exact rfl))
         | ((with_reducible apply EvK.cond_f); (case hc => exact rfl))
         | ((with_reducible apply EvO.spd_t); (case hp => first | assumption | omega))
         | (with_reducible apply EvO.nilT)
         | ((with_reducible apply EvO.u0); (case hx => first
            | ((with_reducible apply OpR.mv); (conv => lhs; whnf); try exact rfl)
            | ((with_reducible apply OpR.asg); (conv => lhs; whnf); try exact rfl)
            | ((with_reducible apply OpR.ads); (case hx => exact rfl); (case hy => exact rfl); (case h => (simp [ByteArray.size_append, bs_size, szl]; omega)))
            | ((with_reducible apply OpR.callF); (case hcal => exact rfl); (case hav => exact rfl); (case hx => exact rfl); (case hh => exact rfl); (case hm => exact rfl); (case hcl => exact hF); (case hr => exact rfl))
            | ((with_reducible apply OpR.callF); (case hcal => exact rfl); (case hav => exact rfl); (case hx => exact rfl); (case hh => exact rfl); (case hm => exact rfl); (case hcl => exact hcf); (case hr => exact rfl))
            | ((with_reducible apply OpR.callF); (case hcal => exact rfl); (case hav => exact rfl); (case hx => exact rfl); (case hh => exact rfl); (case hm => exact rfl); (case hcl => exact decimal_c (by omega) (by omega)); (case hr => exact rfl))
            | ((with_reducible apply OpR.fal); (case hy => exact rfl); (case ho => exact rfl); (case hn => (conv => lhs; whnf); try exact rfl))
            | ((with_reducible apply OpR.bxt); (case hs => exact fun _ => rfl); (case hy => exact rfl); (case ho => kernel_rfl); (case hn => (first | exact ln0 | exact ln1 | exact ln2 | exact ln3 | exact ln4 | exact ln5 | exact ln6 | exact ln7 | exact ln8 | exact ln9 | exact ln10 | exact ln11 | exact ln12 | exact ln13 | exact ln14)); (case hf => (repeat' (first | exact LEq.nil | ((with_reducible apply LEq.cons); (case h => (conv => lhs; whnf); try exact rfl)) | (apply LEq.cons; (case h => (conv => lhs; whnf); try exact rfl))))))
            | ((with_reducible apply OpR.ldw); (case hy => exact rfl); (case ht => first | (with_reducible exact sz0) | (with_reducible exact sz1) | (with_reducible exact sz2) | (with_reducible exact sz3) | (with_reducible exact sz4) | (with_reducible exact sz5) | (with_reducible exact sz6) | (with_reducible exact sz7) | (with_reducible exact sz8) | (with_reducible exact sz9)); (case hb => exact rfl); (case hl => kernel_rfl))
            | exact OpR.r fun _ => rfl))
         | fail)
      refine fin_s (.inr rfl) rfl ?_
      simp only [lbs, bs_app]
      congr 1
      simp [join2, Lib.join_one, wAction, wPlace, wSerial]
    ·
      by_cases h2 : e.k = 2
      ·
        obtain ⟨⟨p0, p1, s0, s1⟩, _⟩ := k2 h2
        have lp := itoa_len10 p0 (by omega)
        have ls := itoa_len10 s0 (by omega)
        have hfe : fmtE e = Lib.join [Lib.itoa e.r, Lib.itoa e.n, Lib.itoa e.t, fmtS e.past, wNote, wPlace, Lib.itoa e.pl, wSerial, Lib.itoa e.se] [32] := by unfold fmtE tailW; rw [if_pos hf, if_neg h0, if_pos h2]; rfl
        rw [hfe]
        repeat' (first
           | (with_reducible apply EvK.seq)
           | (with_reducible apply EvK.block)
           | ((with_reducible apply EvK.text); (try case hm => exact rfl))
           | ((with_reducible apply EvK.drawn); (case hm => exact rfl))
           | (with_reducible apply EvK.skip)
           | (with_reducible apply EvK.ret)
           | (with_reducible apply thenK_n)
           | (with_reducible apply thenK_r)
           | (with_reducible apply blockK_r)
           | ((with_reducible apply EvK.cond_t); (case hc => exact rfl))
           | ((with_reducible apply EvK.cond_f); (case hc => exact rfl))
           | ((with_reducible apply EvO.spd_t); (case hp => first | assumption | omega))
           | ((with_reducible apply EvO.spd_f); (case hp => first | assumption | omega))
           | (with_reducible apply EvO.nilT)
           | ((with_reducible apply EvO.u0); (case hx => first
              | ((with_reducible apply OpR.mv); (conv => lhs; whnf); try exact rfl)
              | ((with_reducible apply OpR.asg); (conv => lhs; whnf); try exact rfl)
              | ((with_reducible apply OpR.ads); (case hx => exact rfl); (case hy => exact rfl); (case h => (simp [ByteArray.size_append, bs_size, szl]; omega)))
              | ((with_reducible apply OpR.callF); (case hcal => exact rfl); (case hav => exact rfl); (case hx => exact rfl); (case hh => exact rfl); (case hm => exact rfl); (case hcl => exact hF); (case hr => exact rfl))
              | ((with_reducible apply OpR.callF); (case hcal => exact rfl); (case hav => exact rfl); (case hx => exact rfl); (case hh => exact rfl); (case hm => exact rfl); (case hcl => exact hcf); (case hr => exact rfl))
              | ((with_reducible apply OpR.callF); (case hcal => exact rfl); (case hav => exact rfl); (case hx => exact rfl); (case hh => exact rfl); (case hm => exact rfl); (case hcl => exact decimal_c (by omega) (by omega)); (case hr => exact rfl))
              | ((with_reducible apply OpR.fal); (case hy => exact rfl); (case ho => exact rfl); (case hn => (conv => lhs; whnf); try exact rfl))
              | ((with_reducible apply OpR.bxt); (case hs => exact fun _ => rfl); (case hy => exact rfl); (case ho => kernel_rfl); (case hn => (first | exact ln0 | exact ln1 | exact ln2 | exact ln3 | exact ln4 | exact ln5 | exact ln6 | exact ln7 | exact ln8 | exact ln9 | exact ln10 | exact ln11 | exact ln12 | exact ln13 | exact ln14)); (case hf => (repeat' (first | exact LEq.nil | ((with_reducible apply LEq.cons); (case h => (conv => lhs; whnf); try exact rfl)) | (apply LEq.cons; (case h => (conv => lhs; whnf); try exact rfl))))))
              | ((with_reducible apply OpR.ldw); (case hy => exact rfl); (case ht => first | (with_reducible exact sz0) | (with_reducible exact sz1) | (with_reducible exact sz2) | (with_reducible exact sz3) | (with_reducible exact sz4) | (with_reducible exact sz5) | (with_reducible exact sz6) | (with_reducible exact sz7) | (with_reducible exact sz8) | (with_reducible exact sz9)); (case hb => exact rfl); (case hl => kernel_rfl))
              | exact OpR.r fun _ => rfl))
           | fail)
        refine fin_s (.inr rfl) rfl ?_
        simp only [lbs, bs_app]
        congr 1
        simp [join2, Lib.join_one, wNote, wPlace, wSerial]
      ·
        obtain ⟨⟨gk, gi0, gi1, ge0, ge1, ga0, ga1, to0, to1⟩, _, hpl, hse⟩ := k1 (by omega)
        have p0 : 0 ≤ e.pl := by omega
        have s0 : 0 ≤ e.se := by omega
        have lp := itoa_len10 p0 (by omega)
        have ls := itoa_len10 s0 (by omega)
        have li := itoa_len10 gi0 (by omega)
        have le := itoa_len10 ge0 (by omega)
        have lg := itoa_len10 ga0 (by omega)
        have lo := itoa_len10 to0 (by omega)
        by_cases hg : e.gk = 1
        ·
          have hfe : fmtE e = Lib.join [Lib.itoa e.r, Lib.itoa e.n, Lib.itoa e.t, fmtS e.past, wGive, wShare, Lib.itoa e.gi, Lib.itoa e.ge, Lib.itoa e.ga, wTo, Lib.itoa e.to] [32] := by unfold fmtE tailW; rw [if_pos hf, if_neg h0, if_neg h2, if_pos hg]; rfl
          rw [hfe]
          repeat' (first
             | (with_reducible apply EvK.seq)
             | (with_reducible apply EvK.block)
             | ((with_reducible apply EvK.text); (try case hm => exact rfl))
             | ((with_reducible apply EvK.drawn); (case hm => exact rfl))
             | (with_reducible apply EvK.skip)
             | (with_reducible apply EvK.ret)
             | (with_reducible apply thenK_n)
             | (with_reducible apply blockK_n)
             | ((with_reducible apply EvK.cond_t); (case hc => exact rfl))
             | ((with_reducible apply EvK.cond_f); (case hc => exact rfl))
             | ((with_reducible apply EvO.spd_t); (case hp => first | assumption | omega))
             | ((with_reducible apply EvO.spd_f); (case hp => first | assumption | omega))
             | (with_reducible apply EvO.nilT)
             | ((with_reducible apply EvO.u0); (case hx => first
                | ((with_reducible apply OpR.mv); (conv => lhs; whnf); try exact rfl)
                | ((with_reducible apply OpR.asg); (conv => lhs; whnf); try exact rfl)
                | ((with_reducible apply OpR.ads); (case hx => exact rfl); (case hy => exact rfl); (case h => (simp [ByteArray.size_append, bs_size, szl]; omega)))
                | ((with_reducible apply OpR.callF); (case hcal => exact rfl); (case hav => exact rfl); (case hx => exact rfl); (case hh => exact rfl); (case hm => exact rfl); (case hcl => exact hF); (case hr => exact rfl))
                | ((with_reducible apply OpR.callF); (case hcal => exact rfl); (case hav => exact rfl); (case hx => exact rfl); (case hh => exact rfl); (case hm => exact rfl); (case hcl => exact hcf); (case hr => exact rfl))
                | ((with_reducible apply OpR.callF); (case hcal => exact rfl); (case hav => exact rfl); (case hx => exact rfl); (case hh => exact rfl); (case hm => exact rfl); (case hcl => exact decimal_c (by omega) (by omega)); (case hr => exact rfl))
                | ((with_reducible apply OpR.fal); (case hy => exact rfl); (case ho => exact rfl); (case hn => (conv => lhs; whnf); try exact rfl))
                | ((with_reducible apply OpR.bxt); (case hs => exact fun _ => rfl); (case hy => exact rfl); (case ho => kernel_rfl); (case hn => (first | exact ln0 | exact ln1 | exact ln2 | exact ln3 | exact ln4 | exact ln5 | exact ln6 | exact ln7 | exact ln8 | exact ln9 | exact ln10 | exact ln11 | exact ln12 | exact ln13 | exact ln14)); (case hf => (repeat' (first | exact LEq.nil | ((with_reducible apply LEq.cons); (case h => (conv => lhs; whnf); try exact rfl)) | (apply LEq.cons; (case h => (conv => lhs; whnf); try exact rfl))))))
                | ((with_reducible apply OpR.ldw); (case hy => exact rfl); (case ht => first | (with_reducible exact sz0) | (with_reducible exact sz1) | (with_reducible exact sz2) | (with_reducible exact sz3) | (with_reducible exact sz4) | (with_reducible exact sz5) | (with_reducible exact sz6) | (with_reducible exact sz7) | (with_reducible exact sz8) | (with_reducible exact sz9)); (case hb => exact rfl); (case hl => kernel_rfl))
                | exact OpR.r fun _ => rfl))
             | fail)
          refine fin_s (.inr rfl) rfl ?_
          simp only [lbs, bs_app]
          congr 1
          simp [join2, Lib.join_one, wGive, wShare, wTo]
        ·
          have hfe : fmtE e = Lib.join [Lib.itoa e.r, Lib.itoa e.n, Lib.itoa e.t, fmtS e.past, wGive, wRow, Lib.itoa e.gi, Lib.itoa e.ge, Lib.itoa e.ga, wTo, Lib.itoa e.to] [32] := by unfold fmtE tailW; rw [if_pos hf, if_neg h0, if_neg h2, if_neg hg]; rfl
          rw [hfe]
          repeat' (first
             | (with_reducible apply EvK.seq)
             | (with_reducible apply EvK.block)
             | ((with_reducible apply EvK.text); (try case hm => exact rfl))
             | ((with_reducible apply EvK.drawn); (case hm => exact rfl))
             | (with_reducible apply EvK.skip)
             | (with_reducible apply EvK.ret)
             | (with_reducible apply thenK_n)
             | (with_reducible apply blockK_n)
             | ((with_reducible apply EvK.cond_f); (case hc => exact rfl))
             | ((with_reducible apply EvO.spd_f); (case hp => first | assumption | omega))
             | (with_reducible apply EvO.nilT)
             | ((with_reducible apply EvO.u0); (case hx => first
                | ((with_reducible apply OpR.mv); (conv => lhs; whnf); try exact rfl)
                | ((with_reducible apply OpR.asg); (conv => lhs; whnf); try exact rfl)
                | ((with_reducible apply OpR.ads); (case hx => exact rfl); (case hy => exact rfl); (case h => (simp [ByteArray.size_append, bs_size, szl]; omega)))
                | ((with_reducible apply OpR.callF); (case hcal => exact rfl); (case hav => exact rfl); (case hx => exact rfl); (case hh => exact rfl); (case hm => exact rfl); (case hcl => exact hF); (case hr => exact rfl))
                | ((with_reducible apply OpR.callF); (case hcal => exact rfl); (case hav => exact rfl); (case hx => exact rfl); (case hh => exact rfl); (case hm => exact rfl); (case hcl => exact hcf); (case hr => exact rfl))
                | ((with_reducible apply OpR.callF); (case hcal => exact rfl); (case hav => exact rfl); (case hx => exact rfl); (case hh => exact rfl); (case hm => exact rfl); (case hcl => exact decimal_c (by omega) (by omega)); (case hr => exact rfl))
                | ((with_reducible apply OpR.fal); (case hy => exact rfl); (case ho => exact rfl); (case hn => (conv => lhs; whnf); try exact rfl))
                | ((with_reducible apply OpR.bxt); (case hs => exact fun _ => rfl); (case hy => exact rfl); (case ho => kernel_rfl); (case hn => (first | exact ln0 | exact ln1 | exact ln2 | exact ln3 | exact ln4 | exact ln5 | exact ln6 | exact ln7 | exact ln8 | exact ln9 | exact ln10 | exact ln11 | exact ln12 | exact ln13 | exact ln14)); (case hf => (repeat' (first | exact LEq.nil | ((with_reducible apply LEq.cons); (case h => (conv => lhs; whnf); try exact rfl)) | (apply LEq.cons; (case h => (conv => lhs; whnf); try exact rfl))))))
                | ((with_reducible apply OpR.ldw); (case hy => exact rfl); (case ht => first | (with_reducible exact sz0) | (with_reducible exact sz1) | (with_reducible exact sz2) | (with_reducible exact sz3) | (with_reducible exact sz4) | (with_reducible exact sz5) | (with_reducible exact sz6) | (with_reducible exact sz7) | (with_reducible exact sz8) | (with_reducible exact sz9)); (case hb => exact rfl); (case hl => kernel_rfl))
                | exact OpR.r fun _ => rfl))
             | fail)
          refine fin_s (.inr rfl) rfl ?_
          simp only [lbs, bs_app]
          congr 1
          simp [join2, Lib.join_one, wGive, wRow, wTo]
/-! words -/
theorem bs_cut (l : List UInt8) (i j : Nat) : (bs l).extract i j = bs ((l.take j).drop i) := by
  apply ByteArray.ext
  rw [ByteArray.data_extract]
  simp [bs, List.drop_take]
theorem cut_one {l : List UInt8} {q : Nat} {b : UInt8} (h : l[q]? = some b) : (l.take (q + 1)).drop q = [b] := by
  obtain ⟨hl, rfl⟩ := List.getElem?_eq_some_iff.1 h
  rw [List.drop_take, Nat.add_sub_cancel_left, List.drop_eq_getElem_cons hl]
  rfl
theorem wordsR_snoc {l : List UInt8} {q : Nat} {b : UInt8} (h : l[q]? = some b) : wordsR (l.take (q + 1)) = stepW (wordsR (l.take q)) b := foldl_snoc _ _ h
theorem stepW_ne (W : List (List UInt8)) (b : UInt8) : stepW W b ≠ [] := by
  unfold stepW
  split <;> simp
theorem wordsR_ne (l : List UInt8) (q : Nat) : wordsR (l.take q) ≠ [] := by
  induction q with
  | zero => simp [wordsR]
  | succ q ih =>
    rcases Nat.lt_or_ge q l.length with h | h
    · obtain ⟨b, hb⟩ := get_of_lt h
      rw [wordsR_snoc hb]; exact stepW_ne _ _
    · rw [List.take_of_length_le (by omega)]
      rw [List.take_of_length_le h] at ih
      exact ih
theorem wordsR_lens (l : List UInt8) : ∀ (q : Nat), (wordsR (l.take q)).length ≤ q + 1 ∧ ∀ w ∈ wordsR (l.take q), w.length ≤ q
  | 0 => by simp [wordsR]
  | q + 1 => by
    obtain ⟨h1, h2⟩ := wordsR_lens l q
    rcases Nat.lt_or_ge q l.length with h | h
    · obtain ⟨b, hb⟩ := get_of_lt h
      rw [wordsR_snoc hb]
      have hne := wordsR_ne l q
      generalize wordsR (l.take q) = W at *
      unfold stepW
      split
      · refine ⟨by simp; omega, fun w hw => ?_⟩
        simp only [List.mem_append, List.mem_singleton] at hw
        rcases hw with hw | rfl
        · have := h2 w hw; omega
        · simp
      · have hl : 0 < W.length := List.length_pos_iff.2 hne
        refine ⟨by simp; omega, fun w hw => ?_⟩
        simp only [List.mem_append, List.mem_singleton] at hw
        rcases hw with hw | rfl
        · have := h2 w ((List.dropLast_sublist W).subset hw); omega
        · have : W.getLastD [] ∈ W := by
            rw [List.getLastD_eq_getLast?, List.getLast?_eq_some_getLast hne]
            exact List.getLast_mem hne
          have := h2 _ this
          rw [List.getLastD_eq_getLast?] at this
          simp; omega
    · rw [List.take_of_length_le (by omega)]
      rw [List.take_of_length_le h] at h1 h2
      exact ⟨by omega, fun w hw => by have := h2 w hw; omega⟩
theorem wsE_get {W : List (List UInt8)} {k : Nat} {w : List UInt8} (h : W[k]? = some w) : (wsE W)[k]? = some [.str (bs w)] := by simp [wsE, h]
theorem wsE_len (W : List (List UInt8)) : (wsE W).length = W.length := by simp [wsE]
theorem words32_c {l : List UInt8} (hl : l.length ≤ 900) : Cl cfg 66 [.t (.str (bs l))] [] (.ls 0) [.row false false 1 (wsE (wordsR l))] := by
  have hsz : (bs l).size = l.length := bs_size l
  refine Cl.of_body rfl Tryz.func66 rfl rfl rfl ?_
  repeat' (first
     | (with_reducible apply EvK.stop (id := 1))
     | (with_reducible apply EvK.seq)
     | ((with_reducible apply EvK.text); (try case hm => exact rfl))
     | (with_reducible apply EvO.nilT)
     | ((with_reducible apply EvO.u0); (case hx => ((with_reducible apply OpR.asg); (conv => lhs; whnf); try exact rfl)))
     | fail)
  refine StopAt.go ?_
  refine EvK.seq ?_
  refine EvK.text0 (x := .ls 0) (r' := [.row false false 1 [[.str ⟨#[]⟩]]]) rfl rfl (by kernel_rfl) ?_
  repeat' (first
     | (with_reducible apply EvK.seq)
     | (with_reducible apply EvK.block)
     | ((with_reducible apply EvK.text); (try case hm => exact rfl))
     | (with_reducible apply EvO.nilT)
     | ((with_reducible apply EvO.u0); (case hx => ((with_reducible apply OpR.asg); (conv => lhs; whnf); try exact rfl)))
     | fail)
  apply EvK.loopV
  case ho => exact rfl
  case hp => exact rfl
  case hl => exact rfl
  case hs => repeat' (first | exact Slots.nil | (apply Slots.cons; (case hv => (conv => lhs; whnf); try exact rfl)))
  refine EvL.indF (fun s : Nat × Bool => [(3, .ls 0), (4, .t (.int .i64 (s.1 : Int)))]) (fun s => [.row false s.2 1 (wsE (wordsR (l.take s.1)))]) (fun s => s.1 ≤ l.length) (fun s => l.length - s.1) (0, false) rfl rfl (by simp) (fun s hq => ?_)
  obtain ⟨q, tch⟩ := s
  simp only at hq
  dsimp only
  obtain ⟨hwl, hws⟩ := wordsR_lens l q
  have hne := wordsR_ne l q
  rcases Nat.lt_or_ge q l.length with h3 | h3
  ·
    obtain ⟨b, hb⟩ := get_of_lt h3
    have hst := wordsR_snoc hb
    obtain ⟨W, hW⟩ : ∃ W, wordsR (l.take q) = W := ⟨_, rfl⟩
    rw [hW] at hst hwl hws hne ⊢
    have hwE := wsE_len W
    by_cases h32 : b = 32
    ·
      have hb32 : (b.toNat : Int) = 32 := by rw [h32]; rfl
      have hsn : wsE W ++ [[.str ⟨#[]⟩]] = wsE (wordsR (l.take (q + 1))) := by rw [hst, stepW, if_pos h32]; simp [wsE]; rfl
      repeat' (first
         | (with_reducible apply EvK.seq)
         | (with_reducible apply EvK.block)
         | ((with_reducible apply EvK.text); (try case hm => exact rfl))
         | (with_reducible apply EvK.skip)
         | (with_reducible apply thenK_n)
         | ((with_reducible apply EvK.cond_t); (case hc => exact rfl))
         | ((with_reducible apply EvO.spd_t); (case hp => first | assumption | omega))
         | (with_reducible apply EvO.nilT)
         | (with_reducible apply EvO.nilB)
         | ((with_reducible apply EvO.u); (case hx => ((with_reducible apply OpR.apr); (case hs => exact fun _ => rfl); (case ha => exact rfl); (case ht => exact rfl); (case hr => first | (with_reducible exact rw0) | (with_reducible exact rw1) | (with_reducible exact rw2) | (with_reducible exact rw3) | (with_reducible exact rw4) | exact rfl); (case hx => exact rfl); (case hy => exact rfl); (case hn => exact rfl); (case hb => exact rfl); (case hok => exact rfl); (case hlen => exact lenS16 (by rw [wsE_len]; simp; omega)); (case hv => exact hsn); (case hk => (repeat' (first | exact KFr.nil | (with_reducible apply KFr.row) | (with_reducible apply KFr.boxt) | ((apply KFr.box); (case hd => (repeat' (first | exact LEq.nil | ((with_reducible apply LEq.cons); (case h => (conv => lhs; whnf); try exact rfl)) | (apply LEq.cons; (case h => (conv => lhs; whnf); try exact rfl))))))))); (case hf => (repeat' (first | exact LEq.nil | ((with_reducible apply LEq.cons); (case h => (conv => lhs; whnf); try exact rfl)) | (apply LEq.cons; (case h => (conv => lhs; whnf); try exact rfl))))))))
         | ((with_reducible apply EvO.u0); (case hx => first
            | ((with_reducible apply OpR.mv); (conv => lhs; whnf); try exact rfl)
            | ((with_reducible apply OpR.asg); (conv => lhs; whnf); try exact rfl)
            | ((with_reducible apply OpR.six); (case hx => exact rfl); (case hi => exact rfl); (case hst => exact rfl); (case h0 => omega); (case hb => assumption))
            | ((with_reducible apply OpR.inc); (case hx => exact rfl); (case hy => exact rfl); (case h => omega))
            | exact OpR.r fun _ => rfl))
         | fail)
      refine ⟨(q + 1, true), rfl, rfl, by dsimp only; omega, by dsimp only; omega⟩
    ·
      have hb32 : ¬ (b.toNat : Int) = ((32 : UInt8).toNat : Int) := fun e => h32 (UInt8.toNat_inj.1 (by omega))
      have h32' : (((32 : UInt8).toNat : Nat) : Int) = 32 := rfl
      obtain ⟨W0, u, rfl⟩ : ∃ W0 u, W = W0 ++ [u] := ⟨W.dropLast, W.getLast hne, (List.dropLast_concat_getLast hne).symm⟩
      have hwl0 : (W0 ++ [u]).length = W0.length + 1 := by simp
      have hul := hws u (by simp)
      have hkn : (((W0 ++ [u]).length : Int) - 1).toNat = W0.length := by omega
      have hk : (wsE (W0 ++ [u]))[(((W0 ++ [u]).length : Int) - 1).toNat]? = some [.str (bs u)] := by rw [hkn]; exact wsE_get (by simp)
      have hk2 : (wsE (W0 ++ [u]))[(((wsE (W0 ++ [u])).length : Int) - 1).toNat]? = some [.str (bs u)] := by rw [hwE]; exact hk
      have hcut : (bs l).extract q (q + 1) = bs [b] := by rw [bs_cut, cut_one hb]
      have hs1 : (bs u).size ≤ 900 := by rw [bs_size]; omega
      have hs2 : (bs [b]).size = 1 := by rw [bs_size]; rfl
      have hsn : (wsE (W0 ++ [u])).set (((W0 ++ [u]).length : Int) - 1).toNat [.str (bs u ++ bs [b])] = wsE (wordsR (l.take (q + 1))) := by
        rw [hkn, hst, stepW, if_neg h32, bs_app]
        simp [wsE]
      have hsn2 : (wsE (W0 ++ [u])).set (((wsE (W0 ++ [u])).length : Int) - 1).toNat [.str (bs u ++ bs [b])] = wsE (wordsR (l.take (q + 1))) := by rw [hwE]; exact hsn
      repeat' (first
         | (with_reducible apply EvK.seq)
         | (with_reducible apply EvK.block)
         | ((with_reducible apply EvK.text); (try case hm => exact rfl))
         | ((with_reducible apply EvK.drawn); (case hm => exact rfl))
         | (with_reducible apply EvK.skip)
         | (with_reducible apply thenK_n)
         | ((with_reducible apply EvK.cond_t); (case hc => exact rfl))
         | ((with_reducible apply EvK.cond_f); (case hc => exact rfl))
         | ((with_reducible apply EvO.spd_t); (case hp => first | assumption | omega))
         | ((with_reducible apply EvO.spd_f); (case hp => first | assumption | omega))
         | (with_reducible apply EvO.nilT)
         | (with_reducible apply EvO.nilB)
         | ((with_reducible apply EvO.u0); (case hx => first
            | ((with_reducible apply OpR.mv); (conv => lhs; whnf); try exact rfl)
            | ((with_reducible apply OpR.asg); (conv => lhs; whnf); try exact rfl)
            | ((with_reducible apply OpR.six); (case hx => exact rfl); (case hi => exact rfl); (case hst => exact rfl); (case h0 => omega); (case hb => assumption))
            | ((with_reducible apply OpR.ssl); (case hst => exact rfl); (case hx => exact rfl); (case hl => exact rfl); (case hh => exact rfl); (case hlh => omega); (case hhs => omega); (case hv => exact hcut))
            | ((with_reducible apply OpR.sti); (case hs => exact fun _ => rfl); (case ha => exact rfl); (case hy => exact rfl); (case ht => exact rfl); (case hone => exact rfl); (case hn => kernel_rfl); (case hb => exact rfl); (case hk => exact hk); (case hj => exact rfl); (case hv => exact hsn); (case hf => (repeat' (first | exact LEq.nil | ((with_reducible apply LEq.cons); (case h => (conv => lhs; whnf); try exact rfl)) | (apply LEq.cons; (case h => (conv => lhs; whnf); try exact rfl))))))
            | ((with_reducible apply OpR.inc); (case hx => exact rfl); (case hy => exact rfl); (case h => omega))
            | ((with_reducible apply OpR.sub); (case hx => exact rfl); (case hy => exact rfl); (case h => omega))
            | ((with_reducible apply OpR.len); (case ha => exact rfl); (case hy => exact rfl); (case ht => exact rfl); (case hs => exact rfl); (case hn => first | exact List.length_map _ | exact rfl))
            | ((with_reducible apply OpR.ads); (case hx => exact rfl); (case hy => exact rfl); (case h => first | assumption | omega))
            | ((with_reducible apply OpR.ixrm); (case he => first | (with_reducible exact el0) | (with_reducible exact el1) | (with_reducible exact el2) | (with_reducible exact el3) | (with_reducible exact el4) | (with_reducible exact el5) | (with_reducible exact el6) | (with_reducible exact el7) | exact rfl); (case hx => exact rfl); (case hi => exact rfl); (case hb => exact rfl); (case h0 => first | assumption | omega); (case hq => first | assumption | omega))
            | ((with_reducible apply OpR.ldi); (case hy => exact rfl); (case ht => exact rfl); (case hb => exact rfl); (case hk => assumption))
            | exact OpR.r fun _ => rfl))
         | fail)
      refine ⟨(q + 1, tch), rfl, rfl, by dsimp only; omega, by dsimp only; omega⟩
  ·
    rw [List.take_of_length_le h3]
    repeat' (first
       | (with_reducible apply EvK.seq)
       | ((with_reducible apply EvK.text); (try case hm => exact rfl))
       | (with_reducible apply EvK.exit)
       | (with_reducible apply EvK.ret)
       | (with_reducible apply thenK_n)
       | (with_reducible apply thenK_e)
       | (with_reducible apply blockK_h)
       | ((with_reducible apply EvK.cond_f); (case hc => exact rfl))
       | ((with_reducible apply EvO.spd_f); (case hp => first | assumption | omega))
       | (with_reducible apply EvO.nilT)
       | ((with_reducible apply EvO.u0); (case hx => first
          | ((with_reducible apply OpR.mv); (conv => lhs; whnf); try exact rfl)
          | ((with_reducible apply OpR.asg); (conv => lhs; whnf); try exact rfl)
          | exact OpR.r fun _ => rfl))
       | fail)
    exact ⟨.inr rfl, rfl⟩
/-! numbers -/
theorem pow_le9 {q : Nat} (h : q ≤ 9) : 10 ^ q ≤ 1000000000 := by
  have : (10 : Nat) ^ q ≤ 10 ^ 9 := Nat.pow_le_pow_right (by omega) h
  simpa using this
theorem number32_c {l : List UInt8} (hl : l.length ≤ 900) : Cl cfg 67 [.t (.str (bs l))] [] (.t (.int .i64 (numW l))) [] := by
  have hsz : (bs l).size = l.length := bs_size l
  refine Cl.of_body rfl Tryz.func67 rfl rfl rfl ?_
  repeat' (first
     | (with_reducible apply EvK.seq)
     | (with_reducible apply EvK.block)
     | ((with_reducible apply EvK.text); (try case hm => exact rfl))
     | (with_reducible apply EvO.nilT)
     | ((with_reducible apply EvO.u0); (case hx => ((with_reducible apply OpR.asg); (conv => lhs; whnf); try exact rfl)))
     | fail)
  apply EvK.loopV
  case ho => exact rfl
  case hp => exact rfl
  case hl => exact rfl
  case hs => repeat' (first | exact Slots.nil | (apply Slots.cons; (case hv => (conv => lhs; whnf); try exact rfl)))
  refine EvL.ind (fun q : Nat => [(3, .t (.int .i64 (dv (l.take q) : Int))), (4, .t (.int .i64 (q : Int)))]) (fun q => q ≤ 10 ∧ q ≤ l.length ∧ (l.take q).all isDig = true) (fun q => l.length - q) 0 rfl (by simp) (fun q hq => ?_)
  obtain ⟨h1, h2, h3⟩ := hq
  have hdv := dv_lt q l h3 h2
  rcases Nat.lt_or_ge q l.length with h4 | h4
  ·
    obtain ⟨b, hb⟩ := get_of_lt h4
    by_cases hd : isDig b = true ∧ q < 10
    ·
      obtain ⟨hd, h10⟩ := hd
      have hp9 := pow_le9 (q := q) (by omega)
      have hd' := isDig_iff.1 hd
      have hst := dv_step hb hd
      have h3' : (l.take (q + 1)).all isDig = true := all_more h3 hb hd
      repeat' (first
         | (with_reducible apply EvK.seq)
         | (with_reducible apply EvK.block)
         | ((with_reducible apply EvK.text); (try case hm => exact rfl))
         | (with_reducible apply EvK.skip)
         | (with_reducible apply thenK_n)
         | ((with_reducible apply EvK.cond_t); (case hc => exact rfl))
         | ((with_reducible apply EvK.cond_f); (case hc => exact rfl))
         | ((with_reducible apply EvO.spd_t); (case hp => first | assumption | omega))
         | ((with_reducible apply EvO.spd_f); (case hp => first | assumption | omega))
         | ((with_reducible apply EvO.spd_yf); (case hp => first | assumption | omega))
         | (with_reducible apply EvO.nilT)
         | (with_reducible apply EvO.nilB)
         | ((with_reducible apply EvO.gt0); (case hW => exact rfl); (case hx => first
            | ((with_reducible apply OpR.mv); (conv => lhs; whnf); try exact rfl)
            | ((with_reducible apply OpR.six); (case hx => exact rfl); (case hi => exact rfl); (case hst => exact rfl); (case h0 => omega); (case hb => assumption))
            | exact OpR.r fun _ => rfl))
         | ((with_reducible apply EvO.u0); (case hx => first
            | ((with_reducible apply OpR.mv); (conv => lhs; whnf); try exact rfl)
            | ((with_reducible apply OpR.asg); (conv => lhs; whnf); try exact rfl)
            | ((with_reducible apply OpR.pk_f); (case hc => exact rfl); (case h => (conv => lhs; whnf); try exact rfl))
            | ((with_reducible apply OpR.mul); (case hx => exact rfl); (case hy => exact rfl); (case h => omega))
            | ((with_reducible apply OpR.sub8); (case hx => exact rfl); (case hy => exact rfl); (case h => omega))
            | ((with_reducible apply OpR.cvi); (case hx => exact rfl); (case hs => exact rfl); (case hd => exact rfl); (case h => omega))
            | ((with_reducible apply OpR.six); (case hx => exact rfl); (case hi => exact rfl); (case hst => exact rfl); (case h0 => omega); (case hb => assumption))
            | ((with_reducible apply OpR.inc); (case hx => exact rfl); (case hy => exact rfl); (case h => omega))
            | ((with_reducible apply OpR.add); (case hx => exact rfl); (case hy => exact rfl); (case h => omega))
            | exact OpR.r fun _ => rfl))
         | fail)
      refine ⟨q + 1, ?_, rfl, ⟨by omega, by omega, h3'⟩, by omega⟩
      rw [hst]; rfl
    ·
      have hn : numW l = -1 := by
        unfold numW
        rw [if_neg]
        rintro ⟨e1, e2, _, _⟩
        exact hd ⟨List.all_eq_true.1 e1 b (List.mem_of_getElem? hb), by omega⟩
      rw [hn]
      have hnd : ¬ ((48 ≤ (b.toNat : Int) ∧ (b.toNat : Int) ≤ 57) ∧ q < 10) := fun h => hd ⟨isDig_iff.2 (by omega), h.2⟩
      repeat' (first
         | (with_reducible apply EvK.seq)
         | (with_reducible apply EvK.block)
         | ((with_reducible apply EvK.text); (try case hm => exact rfl))
         | (with_reducible apply EvK.skip)
         | (with_reducible apply EvK.ret)
         | (with_reducible apply thenK_n)
         | (with_reducible apply thenK_r)
         | (with_reducible apply blockK_r)
         | ((with_reducible apply EvK.cond_t); (case hc => exact rfl))
         | ((with_reducible apply EvO.spd_t); (case hp => first | assumption | omega))
         | ((with_reducible apply EvO.spd) <;> intro hq)
         | ((with_reducible apply EvO.spd_yt); (case hp => first | assumption | omega))
         | ((with_reducible apply EvO.spd_y) <;> intro hq)
         | (with_reducible apply EvO.nilT)
         | ((with_reducible apply EvO.gf); (case hW => exact rfl))
         | ((with_reducible apply EvO.gt0); (case hW => exact rfl); (case hx => first
            | ((with_reducible apply OpR.mv); (conv => lhs; whnf); try exact rfl)
            | ((with_reducible apply OpR.six); (case hx => exact rfl); (case hi => exact rfl); (case hst => exact rfl); (case h0 => omega); (case hb => assumption))
            | exact OpR.r fun _ => rfl))
         | ((with_reducible apply EvO.u0); (case hx => first
            | ((with_reducible apply OpR.mv); (conv => lhs; whnf); try exact rfl)
            | ((with_reducible apply OpR.asg); (conv => lhs; whnf); try exact rfl)
            | ((with_reducible apply OpR.pk_t); (case hc => exact rfl); (case h => (conv => lhs; whnf); try exact rfl))
            | ((with_reducible apply OpR.pk_f); (case hc => exact rfl); (case h => (conv => lhs; whnf); try exact rfl))
            | ((with_reducible apply OpR.six); (case hx => exact rfl); (case hi => exact rfl); (case hst => exact rfl); (case h0 => omega); (case hb => assumption))
            | exact OpR.r fun _ => rfl))
         | fail)
      all_goals exact ⟨.inr rfl, rfl⟩
  ·
    rw [List.take_of_length_le h4] at h3 hdv ⊢
    have hp10 : 10 ^ q ≤ 10 ^ 10 := Nat.pow_le_pow_right (by omega) h1
    have hp10' : (10 : Nat) ^ 10 = 10000000000 := rfl
    rcases List.eq_nil_or_concat l with rfl | ⟨l0, b0, hl0⟩
    ·
      have he : bs [] = ⟨#[]⟩ := rfl
      have hn : numW [] = -1 := rfl
      rw [hn]
      repeat' (first
         | (with_reducible apply EvK.seq)
         | ((with_reducible apply EvK.text); (try case hm => exact rfl))
         | (with_reducible apply EvK.exit)
         | (with_reducible apply EvK.ret)
         | (with_reducible apply thenK_n)
         | (with_reducible apply thenK_e)
         | (with_reducible apply thenK_r)
         | (with_reducible apply blockK_h)
         | ((with_reducible apply EvK.cond_t); (case hc => exact rfl))
         | ((with_reducible apply EvK.cond_f); (case hc => exact rfl))
         | ((with_reducible apply EvO.spd_t); (case hp => first | assumption | omega))
         | ((with_reducible apply EvO.spd_f); (case hp => first | assumption | omega))
         | (with_reducible apply EvO.nilT)
         | ((with_reducible apply EvO.gf); (case hW => exact rfl))
         | ((with_reducible apply EvO.u0); (case hx => first
            | ((with_reducible apply OpR.mv); (conv => lhs; whnf); try exact rfl)
            | ((with_reducible apply OpR.asg); (conv => lhs; whnf); try exact rfl)
            | ((with_reducible apply OpR.pk_t); (case hc => exact rfl); (case h => (conv => lhs; whnf); try exact rfl))
            | exact OpR.r fun _ => rfl))
         | fail)
      all_goals exact ⟨.inr rfl, rfl⟩
    ·
      have hln : l ≠ [] := by rw [hl0]; simp
      have hne : ¬ bs l = ⟨#[]⟩ := fun h => hln (bs_inj (y := []) h)
      have hdc := dec3_c (n := (dv l : Int)) (by omega) (by omega)
      by_cases he : Lib.itoa (dv l) = l
      ·
        have hn : numW l = dv l := by unfold numW; rw [if_pos ⟨h3, by omega, hln, he⟩]
        rw [hn]
        have hee : bs (Lib.itoa (dv l)) = bs l := by rw [he]
        repeat' (first
           | (with_reducible apply EvK.seq)
           | ((with_reducible apply EvK.text); (try case hm => exact rfl))
           | (with_reducible apply EvK.skip)
           | (with_reducible apply EvK.exit)
           | (with_reducible apply EvK.ret)
           | (with_reducible apply thenK_n)
           | (with_reducible apply thenK_e)
           | (with_reducible apply blockK_h)
           | ((with_reducible apply EvK.cond_f); (case hc => exact rfl))
           | ((with_reducible apply EvO.spd_f); (case hp => first | assumption | omega))
           | ((with_reducible apply EvO.spn_yf); (case hp => first | assumption | omega))
           | (with_reducible apply EvO.nilT)
           | ((with_reducible apply EvO.gt0); (case hW => exact rfl); (case hx => first
              | ((with_reducible apply OpR.mv); (conv => lhs; whnf); try exact rfl)
              | ((with_reducible apply OpR.callF); (case hcal => exact rfl); (case hav => exact rfl); (case hx => exact rfl); (case hh => exact rfl); (case hm => exact rfl); (case hcl => exact hdc); (case hr => exact rfl))
              | exact OpR.r fun _ => rfl))
           | ((with_reducible apply EvO.u0); (case hx => first
              | ((with_reducible apply OpR.mv); (conv => lhs; whnf); try exact rfl)
              | ((with_reducible apply OpR.asg); (conv => lhs; whnf); try exact rfl)
              | ((with_reducible apply OpR.pk_f); (case hc => exact rfl); (case h => (conv => lhs; whnf); try exact rfl))
              | exact OpR.r fun _ => rfl))
           | fail)
        all_goals exact ⟨.inr rfl, rfl⟩
      ·
        have hn : numW l = -1 := by unfold numW; rw [if_neg (fun h => he h.2.2.2)]
        rw [hn]
        have hee : ¬ bs (Lib.itoa (dv l)) = bs l := fun h => he (bs_inj h)
        repeat' (first
           | (with_reducible apply EvK.seq)
           | ((with_reducible apply EvK.text); (try case hm => exact rfl))
           | (with_reducible apply EvK.exit)
           | (with_reducible apply EvK.ret)
           | (with_reducible apply thenK_n)
           | (with_reducible apply thenK_e)
           | (with_reducible apply thenK_r)
           | (with_reducible apply blockK_h)
           | ((with_reducible apply EvK.cond_t); (case hc => exact rfl))
           | ((with_reducible apply EvK.cond_f); (case hc => exact rfl))
           | ((with_reducible apply EvO.spd_f); (case hp => first | assumption | omega))
           | ((with_reducible apply EvO.spn_yt); (case hp => first | assumption | omega))
           | (with_reducible apply EvO.nilT)
           | ((with_reducible apply EvO.gt0); (case hW => exact rfl); (case hx => first
              | ((with_reducible apply OpR.mv); (conv => lhs; whnf); try exact rfl)
              | ((with_reducible apply OpR.callF); (case hcal => exact rfl); (case hav => exact rfl); (case hx => exact rfl); (case hh => exact rfl); (case hm => exact rfl); (case hcl => exact hdc); (case hr => exact rfl))
              | exact OpR.r fun _ => rfl))
           | ((with_reducible apply EvO.u0); (case hx => first
              | ((with_reducible apply OpR.mv); (conv => lhs; whnf); try exact rfl)
              | ((with_reducible apply OpR.asg); (conv => lhs; whnf); try exact rfl)
              | ((with_reducible apply OpR.pk_f); (case hc => exact rfl); (case h => (conv => lhs; whnf); try exact rfl))
              | exact OpR.r fun _ => rfl))
           | fail)
        all_goals exact ⟨.inr rfl, rfl⟩
end Go.Proofs.YtgbfedgghjcdcaaGreatDoor
