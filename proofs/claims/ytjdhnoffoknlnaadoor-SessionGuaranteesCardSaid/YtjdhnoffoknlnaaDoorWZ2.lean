/- Law 52: SessionGuarantees. No condition. -/
import Derived.Test.YtjdhnoffoknlnaaDoorWZ
namespace Go.Proofs.YtjdhnoffoknlnaaDoor
set_option linter.unusedSimpArgs false
set_option linter.unusedVariables false
set_option linter.unusedSectionVars false
open Go.RowKit
set_option maxRecDepth 100000
set_option maxHeartbeats 8000000

theorem lenA {n : Nat} (h : n ≤ 1000000) : lenOk n 152 = true := by simp [lenOk]; omega
theorem law_guar (n : Int) (l : List SAct) (hl : l.length ≤ 17592186044416) (hc : ∀ a ∈ l, a.cl.length ≤ 17592186044416 ∧ a.ev.past.length ≤ 17592186044416) : Cl cfg 5 [.t (.int .i64 n), .t (actsA l)] [] (.t (.bool true)) [] := by
  have hf := few_c l (by omega)
  refine Cl.of_body rfl Tryd.func5 rfl rfl rfl ?_
  cases hfew : fewActs l with
  | false =>
    rw [hfew] at hf
    repeat' (first
       | (with_reducible apply EvK.seq)
       | (with_reducible apply EvK.text)
       | (with_reducible apply EvK.skip)
       | (with_reducible apply EvK.ret)
       | (with_reducible apply thenK_n)
       | (with_reducible apply thenK_r)
       | ((with_reducible apply EvK.cond_t); (case hc => exact rfl))
       | ((with_reducible apply EvK.cond_f); (case hc => exact rfl))
       | (with_reducible apply EvO.nilT)
       | ((with_reducible apply EvO.u0); (case hx => first
          | ((with_reducible apply OpR.mv); (conv => lhs; whnf); try exact rfl)
          | ((with_reducible apply OpR.asg); (conv => lhs; whnf); try exact rfl)
          | ((with_reducible apply OpR.callF); (case hcal => exact rfl); (case hav => exact rfl); (case hx => exact rfl); (case hh => exact rfl); (case hm => exact rfl); (case hcl => exact awake_c); (case hr => exact rfl))
          | ((with_reducible apply OpR.callF); (case hcal => exact rfl); (case hav => exact rfl); (case hx => exact rfl); (case hh => exact rfl); (case hm => exact rfl); (case hcl => exact hf); (case hr => exact rfl))
          | exact OpR.r fun _ => rfl))
       | fail)
    exact ⟨.inr rfl, rfl⟩
  | true =>
    rw [hfew] at hf
    have hfa : l.all few1 = true := by simp only [fewActs, Bool.and_eq_true] at hfew; exact hfew.1
    have hfl : l.length ≤ 20 := by simp only [fewActs, Bool.and_eq_true, decide_eq_true_eq] at hfew; exact hfew.2
    by_cases hn : n < 1 ∨ 5 < n
    ·
      repeat' (first
         | (with_reducible apply EvK.seq)
         | (with_reducible apply EvK.text)
         | (with_reducible apply EvK.skip)
         | (with_reducible apply EvK.ret)
         | (with_reducible apply thenK_n)
         | (with_reducible apply thenK_r)
         | ((with_reducible apply EvK.cond_t); (case hc => exact rfl))
         | ((with_reducible apply EvK.cond_f); (case hc => exact rfl))
         | ((with_reducible apply EvO.spn_t); (case hp => first | assumption | omega))
         | (with_reducible apply EvO.nilT)
         | ((with_reducible apply EvO.gf); (case hW => exact rfl))
         | ((with_reducible apply EvO.u0); (case hx => first
            | ((with_reducible apply OpR.mv); (conv => lhs; whnf); try exact rfl)
            | ((with_reducible apply OpR.asg); (conv => lhs; whnf); try exact rfl)
            | ((with_reducible apply OpR.pk_t); (case hc => exact rfl); (case h => (conv => lhs; whnf); try exact rfl))
            | ((with_reducible apply OpR.callF); (case hcal => exact rfl); (case hav => exact rfl); (case hx => exact rfl); (case hh => exact rfl); (case hm => exact rfl); (case hcl => exact awake_c); (case hr => exact rfl))
            | ((with_reducible apply OpR.callF); (case hcal => exact rfl); (case hav => exact rfl); (case hx => exact rfl); (case hh => exact rfl); (case hm => exact rfl); (case hcl => exact hf); (case hr => exact rfl))
            | ((with_reducible apply OpR.callF); (case hcal => exact rfl); (case hav => exact rfl); (case hx => exact rfl); (case hh => exact rfl); (case hm => exact rfl); (case hcl => exact new_bad hn); (case hr => exact rfl))
            | exact OpR.r fun _ => rfl))
         | fail)
      exact ⟨.inr rfl, rfl⟩
    ·
      have hn0 : 1 ≤ n := by omega
      have hn5 : n ≤ 5 := by omega
      have hzn := zs_len hn0
      repeat' (first
         | (with_reducible apply EvK.seq)
         | (with_reducible apply EvK.block)
         | (with_reducible apply EvK.text)
         | (with_reducible apply EvK.skip)
         | (with_reducible apply thenK_n)
         | ((with_reducible apply EvK.cond_f); (case hc => exact rfl))
         | ((with_reducible apply EvO.spn_f); (case hp => first | assumption | omega))
         | (with_reducible apply EvO.nilT)
         | ((with_reducible apply EvO.gt0); (case hW => exact rfl); (case hx => first
            | ((with_reducible apply OpR.mv); (conv => lhs; whnf); try exact rfl)
            | exact OpR.r fun _ => rfl))
         | ((with_reducible apply EvO.u0); (case hx => first
            | ((with_reducible apply OpR.mv); (conv => lhs; whnf); try exact rfl)
            | ((with_reducible apply OpR.asg); (conv => lhs; whnf); try exact rfl)
            | ((with_reducible apply OpR.pk_f); (case hc => exact rfl); (case h => (conv => lhs; whnf); try exact rfl))
            | ((with_reducible apply OpR.callF); (case hcal => exact rfl); (case hav => exact rfl); (case hx => exact rfl); (case hh => exact rfl); (case hm => exact rfl); (case hcl => exact awake_c); (case hr => exact rfl))
            | ((with_reducible apply OpR.callF); (case hcal => exact rfl); (case hav => exact rfl); (case hx => exact rfl); (case hh => exact rfl); (case hm => exact rfl); (case hcl => exact hf); (case hr => exact rfl))
            | ((with_reducible apply OpR.callX); (case hcal => exact rfl); (case hav => exact rfl); (case hx => exact rfl); (case hh => exact rfl); (case hm => exact rfl); (case hcl => exact new_ok hn0 hn5); (case hr => exact rfl); (case hd => exact rfl); (case hq => kernel_rfl); (case hn => (first | exact ln0 | exact ln1 | exact ln2 | exact ln3 | exact ln4 | exact ln5 | exact ln6 | exact ln7 | exact ln8 | exact ln9 | exact ln10 | exact ln11 | exact ln12 | exact ln13 | exact ln14)); (case hv => (conv => lhs; whnf); try exact rfl); (case he => (repeat' (first | exact XFr.nil | (with_reducible apply XFr.row) | (with_reducible apply XFr.boxt) | ((apply XFr.box); (case hd => (repeat' (first | exact LEq.nil | ((with_reducible apply LEq.cons); (case h => (conv => lhs; whnf); try exact rfl)) | (apply LEq.cons; (case h => (conv => lhs; whnf); try exact rfl))))))))); (case hf => (repeat' (first | exact LEq.nil | ((with_reducible apply LEq.cons); (case h => (conv => lhs; whnf); try exact rfl)) | (apply LEq.cons; (case h => (conv => lhs; whnf); try exact rfl))))))
            | ((with_reducible apply OpR.len); (case ha => exact rfl); (case hy => exact rfl); (case ht => exact rfl); (case hs => exact rfl); (case hn => first | exact List.length_map _ | exact rfl))
            | exact OpR.r fun _ => rfl))
         | fail)
      apply EvK.loopV
      case ho => exact rfl
      case hp => exact rfl
      case hl => exact rfl
      case hs => repeat' (first | exact Slots.nil | (apply Slots.cons; (case hv => (conv => lhs; whnf); try exact rfl)))
      refine EvL.indF (fun s : Nat × List Int × List SAct × Bool => [(7, .ls 1), (33, .t (.int .i64 (s.1 : Int)))]) (fun s => [sesB s.2.1, .row false s.2.2.2 15 (actsE s.2.2.1)]) (fun s => s.1 ≤ l.length ∧ s.2.2.1.length ≤ s.1 ∧ Okay n s.2.1 s.2.2.1) (fun s => l.length - s.1) (0, zs n, [], false) rfl rfl ⟨by simp, by simp, zs_valid hn0 hn5, hzn, by simp, rfl⟩ (fun s hs => ?_)
      obtain ⟨q, c, done, t⟩ := s
      obtain ⟨h1, hdl, hok⟩ := hs
      simp only at h1 hdl hok
      dsimp only
      have h2 := hok.1
      have h3 := hok.2.1
      have hc5 : c.length ≤ 1000 := by omega
      have hc0 : c ≠ [] := by rintro rfl; simp at h3; omega
      have hck := clock_c hc5 hc0
      rcases Nat.lt_or_ge q l.length with h4 | h4
      ·
        obtain ⟨a, ha⟩ := get_of_lt h4
        have hac := actsE_get ha
        have hfw : few1 a = true := List.all_eq_true.1 hfa a (List.mem_of_getElem? ha)
        simp only [few1, Bool.and_eq_true, decide_eq_true_eq] at hfw
        have hA := ract_c n a (by omega) (by omega)
        cases hra : rActB n a with
        | false =>
          rw [hra] at hA
          repeat' (first
             | (with_reducible apply EvK.seq)
             | (with_reducible apply EvK.block)
             | (with_reducible apply EvK.text)
             | (with_reducible apply EvK.skip)
             | (with_reducible apply EvK.exit)
             | (with_reducible apply thenK_n)
             | (with_reducible apply thenK_e)
             | (with_reducible apply blockK_h)
             | ((with_reducible apply EvK.cond_t); (case hc => exact rfl))
             | ((with_reducible apply EvO.spd_t); (case hp => first | assumption | omega))
             | (with_reducible apply EvO.nilT)
             | ((with_reducible apply EvO.u0); (case hx => first
                | ((with_reducible apply OpR.mv); (conv => lhs; whnf); try exact rfl)
                | ((with_reducible apply OpR.callF); (case hcal => exact rfl); (case hav => exact rfl); (case hx => exact rfl); (case hh => exact rfl); (case hm => exact rfl); (case hcl => exact hA); (case hr => exact rfl))
                | ((with_reducible apply OpR.inc); (case hx => exact rfl); (case hy => exact rfl); (case h => omega))
                | ((with_reducible apply OpR.ix); (case he => first | (with_reducible exact el0) | (with_reducible exact el1) | (with_reducible exact el2) | (with_reducible exact el3) | (with_reducible exact el4) | (with_reducible exact el5) | (with_reducible exact el6) | (with_reducible exact el7) | exact rfl); (case hx => exact rfl); (case hi => exact rfl); (case hc => assumption); (case hz => exact rfl))
                | ((with_reducible apply OpR.al); (case hs => exact fun _ => rfl); (case hz => exact rfl); (case hc => (repeat' (first | exact LEq.nil | ((with_reducible apply LEq.cons); (case h => (conv => lhs; whnf); try exact rfl)) | (apply LEq.cons; (case h => (conv => lhs; whnf); try exact rfl))))); (case hn => (first | exact ln0 | exact ln1 | exact ln2 | exact ln3 | exact ln4 | exact ln5 | exact ln6 | exact ln7 | exact ln8 | exact ln9 | exact ln10 | exact ln11 | exact ln12 | exact ln13 | exact ln14)); (case hf => (repeat' (first | exact LEq.nil | ((with_reducible apply LEq.cons); (case h => (conv => lhs; whnf); try exact rfl)) | (apply LEq.cons; (case h => (conv => lhs; whnf); try exact rfl))))))
                | ((with_reducible apply OpR.stw); (case hs => exact fun _ => rfl); (case ha => exact rfl); (case hy => exact rfl); (case ht => first | (with_reducible exact sz0) | (with_reducible exact sz1) | (with_reducible exact sz2) | (with_reducible exact sz3) | (with_reducible exact sz4) | (with_reducible exact sz5) | (with_reducible exact sz6) | (with_reducible exact sz7) | (with_reducible exact sz8) | (with_reducible exact sz9) | exact rfl); (case ho => kernel_rfl); (case hl => kernel_rfl); (case hb => exact rfl); (case hc => kernel_rfl); (case hf => (repeat' (first | exact LEq.nil | ((with_reducible apply LEq.cons); (case h => (conv => lhs; whnf); try exact rfl)) | (apply LEq.cons; (case h => (conv => lhs; whnf); try exact rfl))))))
                | ((with_reducible apply OpR.ldw); (case hy => exact rfl); (case ht => first | (with_reducible exact sz0) | (with_reducible exact sz1) | (with_reducible exact sz2) | (with_reducible exact sz3) | (with_reducible exact sz4) | (with_reducible exact sz5) | (with_reducible exact sz6) | (with_reducible exact sz7) | (with_reducible exact sz8) | (with_reducible exact sz9)); (case hb => exact rfl); (case hl => kernel_rfl))
                | exact OpR.r fun _ => rfl))
             | fail)
          refine ⟨(q + 1, c, done, t), rfl, rfl, ⟨by dsimp only; omega, by dsimp only; omega, hok⟩, by dsimp only; omega⟩
        | true =>
          rw [hra] at hA
          obtain ⟨wr, cl, e⟩ := a
          obtain ⟨hcl, hep⟩ := hfw
          simp only at hcl hep
          cases wr
          ·
            have hpr : (SAct.mk false cl e).cl.length = cl.length := rfl
            have hap : actsE done ++ actsE [⟨false, cl, e⟩] = actsE (done ++ [⟨false, cl, e⟩]) := by simp [actsE]
            obtain ⟨hv, hn2⟩ := act_read hra rfl
            simp only at hv hn2
            have hl2 : cl.length = c.length := by omega
            have hRd := read_c (c := c) (x := cl) hc5 (by omega) h2
            cases hcf : rContB cl c with
            | false =>
              have hs : readS c cl = (9, c) := by simp [readS, fitsB, hv, hl2, cont_eq', hcf]
              rw [hs] at hRd
              have hI := rints_c (a := c) (b := c) (by omega) (by omega)
              rw [beq_self_eq_true] at hI
              repeat' (first
                 | (with_reducible apply EvK.seq)
                 | (with_reducible apply EvK.block)
                 | (with_reducible apply EvK.text)
                 | (with_reducible apply EvK.skip)
                 | (with_reducible apply thenK_n)
                 | (with_reducible apply blockK_n)
                 | ((with_reducible apply EvK.cond_t); (case hc => exact rfl))
                 | ((with_reducible apply EvK.cond_f); (case hc => exact rfl))
                 | ((with_reducible apply EvO.spd_t); (case hp => first | assumption | omega))
                 | ((with_reducible apply EvO.spd_f); (case hp => first | assumption | omega))
                 | ((with_reducible apply EvO.spn_f); (case hp => first | assumption | omega))
                 | (with_reducible apply EvO.nilT)
                 | ((with_reducible apply EvO.gt0); (case hW => exact rfl); (case hx => first
                    | ((with_reducible apply OpR.mv); (conv => lhs; whnf); try exact rfl)
                    | ((with_reducible apply OpR.callF); (case hcal => exact rfl); (case hav => exact rfl); (case hx => exact rfl); (case hh => exact rfl); (case hm => exact rfl); (case hcl => exact hI); (case hr => exact rfl))
                    | ((with_reducible apply OpR.callQ [0]); (case hdr => exact rfl); (case hcal => exact rfl); (case hav => exact rfl); (case hx => exact rfl); (case hh => exact rfl); (case hs0 => kernel_rfl); (case hf => kernel_rfl); (case hg => exact rfl); (case hc => kernel_rfl); (case hm => exact rfl); (case hb => exact rfl); (case hcl => exact hck); (case hk => exact rfl); (case hv => (conv => lhs; whnf); try exact rfl); (case hl => (repeat' (first | exact LEq.nil | ((with_reducible apply LEq.cons); (case h => (conv => lhs; whnf); try exact rfl)) | (apply LEq.cons; (case h => (conv => lhs; whnf); try exact rfl))))); (case hq => exact rfl))
                    | exact OpR.r fun _ => rfl))
                 | ((with_reducible apply EvO.u0); (case hx => first
                    | ((with_reducible apply OpR.mv); (conv => lhs; whnf); try exact rfl)
                    | ((with_reducible apply OpR.asg); (conv => lhs; whnf); try exact rfl)
                    | ((with_reducible apply OpR.pk_f); (case hc => exact rfl); (case h => (conv => lhs; whnf); try exact rfl))
                    | ((with_reducible apply OpR.callF); (case hcal => exact rfl); (case hav => exact rfl); (case hx => exact rfl); (case hh => exact rfl); (case hm => exact rfl); (case hcl => exact hA); (case hr => exact rfl))
                    | ((with_reducible apply OpR.callQ [0]); (case hdr => exact rfl); (case hcal => exact rfl); (case hav => exact rfl); (case hx => exact rfl); (case hh => exact rfl); (case hs0 => kernel_rfl); (case hf => kernel_rfl); (case hg => exact rfl); (case hc => kernel_rfl); (case hm => exact rfl); (case hb => exact rfl); (case hcl => exact hck); (case hk => exact rfl); (case hv => (conv => lhs; whnf); try exact rfl); (case hl => (repeat' (first | exact LEq.nil | ((with_reducible apply LEq.cons); (case h => (conv => lhs; whnf); try exact rfl)) | (apply LEq.cons; (case h => (conv => lhs; whnf); try exact rfl))))); (case hq => exact rfl))
                    | ((with_reducible apply OpR.callQ [0]); (case hdr => exact rfl); (case hcal => exact rfl); (case hav => exact rfl); (case hx => exact rfl); (case hh => exact rfl); (case hs0 => kernel_rfl); (case hf => kernel_rfl); (case hg => exact rfl); (case hc => kernel_rfl); (case hm => exact rfl); (case hb => exact rfl); (case hcl => exact hRd); (case hk => exact rfl); (case hv => (conv => lhs; whnf); try exact rfl); (case hl => (repeat' (first | exact LEq.nil | ((with_reducible apply LEq.cons); (case h => (conv => lhs; whnf); try exact rfl)) | (apply LEq.cons; (case h => (conv => lhs; whnf); try exact rfl))))); (case hq => exact rfl))
                    | ((with_reducible apply OpR.inc); (case hx => exact rfl); (case hy => exact rfl); (case h => omega))
                    | ((with_reducible apply OpR.ix); (case he => first | (with_reducible exact el0) | (with_reducible exact el1) | (with_reducible exact el2) | (with_reducible exact el3) | (with_reducible exact el4) | (with_reducible exact el5) | (with_reducible exact el6) | (with_reducible exact el7) | exact rfl); (case hx => exact rfl); (case hi => exact rfl); (case hc => assumption); (case hz => exact rfl))
                    | ((with_reducible apply OpR.fal); (case hy => exact rfl); (case ho => exact rfl); (case hn => (conv => lhs; whnf); try exact rfl))
                    | ((with_reducible apply OpR.al); (case hs => exact fun _ => rfl); (case hz => exact rfl); (case hc => (repeat' (first | exact LEq.nil | ((with_reducible apply LEq.cons); (case h => (conv => lhs; whnf); try exact rfl)) | (apply LEq.cons; (case h => (conv => lhs; whnf); try exact rfl))))); (case hn => (first | exact ln0 | exact ln1 | exact ln2 | exact ln3 | exact ln4 | exact ln5 | exact ln6 | exact ln7 | exact ln8 | exact ln9 | exact ln10 | exact ln11 | exact ln12 | exact ln13 | exact ln14)); (case hf => (repeat' (first | exact LEq.nil | ((with_reducible apply LEq.cons); (case h => (conv => lhs; whnf); try exact rfl)) | (apply LEq.cons; (case h => (conv => lhs; whnf); try exact rfl))))))
                    | ((with_reducible apply OpR.stw); (case hs => exact fun _ => rfl); (case ha => exact rfl); (case hy => exact rfl); (case ht => first | (with_reducible exact sz0) | (with_reducible exact sz1) | (with_reducible exact sz2) | (with_reducible exact sz3) | (with_reducible exact sz4) | (with_reducible exact sz5) | (with_reducible exact sz6) | (with_reducible exact sz7) | (with_reducible exact sz8) | (with_reducible exact sz9) | exact rfl); (case ho => kernel_rfl); (case hl => kernel_rfl); (case hb => exact rfl); (case hc => kernel_rfl); (case hf => (repeat' (first | exact LEq.nil | ((with_reducible apply LEq.cons); (case h => (conv => lhs; whnf); try exact rfl)) | (apply LEq.cons; (case h => (conv => lhs; whnf); try exact rfl))))))
                    | ((with_reducible apply OpR.ldw); (case hy => exact rfl); (case ht => first | (with_reducible exact sz0) | (with_reducible exact sz1) | (with_reducible exact sz2) | (with_reducible exact sz3) | (with_reducible exact sz4) | (with_reducible exact sz5) | (with_reducible exact sz6) | (with_reducible exact sz7) | (with_reducible exact sz8) | (with_reducible exact sz9)); (case hb => exact rfl); (case hl => kernel_rfl))
                    | exact OpR.r fun _ => rfl))
                 | fail)
              refine ⟨(q + 1, c, done, t), rfl, rfl, ⟨by dsimp only; omega, by dsimp only; omega, hok⟩, by dsimp only; omega⟩
            | true =>
              have hs : readS c cl = (0, List.zipWith max c cl) := by simp [readS, fitsB, hv, hl2, cont_eq', hcf]
              obtain ⟨hz1, hz2⟩ := zip_cont h2 hv hl2.symm
              have hl' : (List.zipWith max c cl).length = c.length := by simp; omega
              have hc0' : List.zipWith max c cl ≠ [] := by intro h; rw [h] at hl'; simp at hl'; omega
              rw [hs] at hRd
              have hck2 := clock_c (c := List.zipWith max c cl) (by omega) hc0'
              have hI := rcont_c (a := List.zipWith max c cl) (b := c) (by omega) (by omega)
              rw [hz1] at hI
              repeat' (first
                 | (with_reducible apply EvK.seq)
                 | (with_reducible apply EvK.block)
                 | (with_reducible apply EvK.text)
                 | (with_reducible apply EvK.skip)
                 | (with_reducible apply EvK.exit)
                 | (with_reducible apply thenK_n)
                 | (with_reducible apply thenK_e)
                 | (with_reducible apply blockK_h)
                 | ((with_reducible apply EvK.cond_t); (case hc => exact rfl))
                 | ((with_reducible apply EvK.cond_f); (case hc => exact rfl))
                 | ((with_reducible apply EvO.spd_t); (case hp => first | assumption | omega))
                 | (with_reducible apply EvO.nilT)
                 | ((with_reducible apply EvO.u); (case hx => ((with_reducible apply OpR.apr); (case hs => exact fun _ => rfl); (case ha => exact rfl); (case ht => exact rfl); (case hr => first | (with_reducible exact rw0) | (with_reducible exact rw1) | (with_reducible exact rw2) | (with_reducible exact rw3) | (with_reducible exact rw4) | exact rfl); (case hx => exact rfl); (case hy => exact rfl); (case hn => exact rfl); (case hb => exact rfl); (case hok => exact rfl); (case hlen => exact lenA (by simp [actsE_len]; omega)); (case hv => exact hap); (case hk => (repeat' (first | exact KFr.nil | (with_reducible apply KFr.row) | (with_reducible apply KFr.boxt) | ((apply KFr.box); (case hd => (repeat' (first | exact LEq.nil | ((with_reducible apply LEq.cons); (case h => (conv => lhs; whnf); try exact rfl)) | (apply LEq.cons; (case h => (conv => lhs; whnf); try exact rfl))))))))); (case hf => (repeat' (first | exact LEq.nil | ((with_reducible apply LEq.cons); (case h => (conv => lhs; whnf); try exact rfl)) | (apply LEq.cons; (case h => (conv => lhs; whnf); try exact rfl))))))))
                 | ((with_reducible apply EvO.u0); (case hx => first
                    | ((with_reducible apply OpR.mv); (conv => lhs; whnf); try exact rfl)
                    | ((with_reducible apply OpR.asg); (conv => lhs; whnf); try exact rfl)
                    | ((with_reducible apply OpR.bsl (es := actsE [⟨false, cl, e⟩])); (case hw => exact rfl); (case ho => kernel_rfl); (case h => kernel_rfl))
                    | ((with_reducible apply OpR.callF); (case hcal => exact rfl); (case hav => exact rfl); (case hx => exact rfl); (case hh => exact rfl); (case hm => exact rfl); (case hcl => exact hA); (case hr => exact rfl))
                    | ((with_reducible apply OpR.callF); (case hcal => exact rfl); (case hav => exact rfl); (case hx => exact rfl); (case hh => exact rfl); (case hm => exact rfl); (case hcl => exact hI); (case hr => exact rfl))
                    | ((with_reducible apply OpR.callQ [0]); (case hdr => exact rfl); (case hcal => exact rfl); (case hav => exact rfl); (case hx => exact rfl); (case hh => exact rfl); (case hs0 => kernel_rfl); (case hf => kernel_rfl); (case hg => exact rfl); (case hc => kernel_rfl); (case hm => exact rfl); (case hb => exact rfl); (case hcl => exact hck); (case hk => exact rfl); (case hv => (conv => lhs; whnf); try exact rfl); (case hl => (repeat' (first | exact LEq.nil | ((with_reducible apply LEq.cons); (case h => (conv => lhs; whnf); try exact rfl)) | (apply LEq.cons; (case h => (conv => lhs; whnf); try exact rfl))))); (case hq => exact rfl))
                    | ((with_reducible apply OpR.callQ [0]); (case hdr => exact rfl); (case hcal => exact rfl); (case hav => exact rfl); (case hx => exact rfl); (case hh => exact rfl); (case hs0 => kernel_rfl); (case hf => kernel_rfl); (case hg => exact rfl); (case hc => kernel_rfl); (case hm => exact rfl); (case hb => exact rfl); (case hcl => exact hRd); (case hk => exact rfl); (case hv => (conv => lhs; whnf); try exact rfl); (case hl => (repeat' (first | exact LEq.nil | ((with_reducible apply LEq.cons); (case h => (conv => lhs; whnf); try exact rfl)) | (apply LEq.cons; (case h => (conv => lhs; whnf); try exact rfl))))); (case hq => exact rfl))
                    | ((with_reducible apply OpR.callQ [0]); (case hdr => exact rfl); (case hcal => exact rfl); (case hav => exact rfl); (case hx => exact rfl); (case hh => exact rfl); (case hs0 => kernel_rfl); (case hf => kernel_rfl); (case hg => exact rfl); (case hc => kernel_rfl); (case hm => exact rfl); (case hb => exact rfl); (case hcl => exact hck2); (case hk => exact rfl); (case hv => (conv => lhs; whnf); try exact rfl); (case hl => (repeat' (first | exact LEq.nil | ((with_reducible apply LEq.cons); (case h => (conv => lhs; whnf); try exact rfl)) | (apply LEq.cons; (case h => (conv => lhs; whnf); try exact rfl))))); (case hq => exact rfl))
                    | ((with_reducible apply OpR.inc); (case hx => exact rfl); (case hy => exact rfl); (case h => omega))
                    | ((with_reducible apply OpR.ix); (case he => first | (with_reducible exact el0) | (with_reducible exact el1) | (with_reducible exact el2) | (with_reducible exact el3) | (with_reducible exact el4) | (with_reducible exact el5) | (with_reducible exact el6) | (with_reducible exact el7) | exact rfl); (case hx => exact rfl); (case hi => exact rfl); (case hc => assumption); (case hz => exact rfl))
                    | ((with_reducible apply OpR.fal); (case hy => exact rfl); (case ho => exact rfl); (case hn => (conv => lhs; whnf); try exact rfl))
                    | ((with_reducible apply OpR.al); (case hs => exact fun _ => rfl); (case hz => exact rfl); (case hc => (repeat' (first | exact LEq.nil | ((with_reducible apply LEq.cons); (case h => (conv => lhs; whnf); try exact rfl)) | (apply LEq.cons; (case h => (conv => lhs; whnf); try exact rfl))))); (case hn => (first | exact ln0 | exact ln1 | exact ln2 | exact ln3 | exact ln4 | exact ln5 | exact ln6 | exact ln7 | exact ln8 | exact ln9 | exact ln10 | exact ln11 | exact ln12 | exact ln13 | exact ln14)); (case hf => (repeat' (first | exact LEq.nil | ((with_reducible apply LEq.cons); (case h => (conv => lhs; whnf); try exact rfl)) | (apply LEq.cons; (case h => (conv => lhs; whnf); try exact rfl))))))
                    | ((with_reducible apply OpR.stw); (case hs => exact fun _ => rfl); (case ha => exact rfl); (case hy => exact rfl); (case ht => first | (with_reducible exact sz0) | (with_reducible exact sz1) | (with_reducible exact sz2) | (with_reducible exact sz3) | (with_reducible exact sz4) | (with_reducible exact sz5) | (with_reducible exact sz6) | (with_reducible exact sz7) | (with_reducible exact sz8) | (with_reducible exact sz9) | exact rfl); (case ho => kernel_rfl); (case hl => kernel_rfl); (case hb => exact rfl); (case hc => kernel_rfl); (case hf => (repeat' (first | exact LEq.nil | ((with_reducible apply LEq.cons); (case h => (conv => lhs; whnf); try exact rfl)) | (apply LEq.cons; (case h => (conv => lhs; whnf); try exact rfl))))))
                    | ((with_reducible apply OpR.ldw); (case hy => exact rfl); (case ht => first | (with_reducible exact sz0) | (with_reducible exact sz1) | (with_reducible exact sz2) | (with_reducible exact sz3) | (with_reducible exact sz4) | (with_reducible exact sz5) | (with_reducible exact sz6) | (with_reducible exact sz7) | (with_reducible exact sz8) | (with_reducible exact sz9)); (case hb => exact rfl); (case hl => kernel_rfl))
                    | exact OpR.r fun _ => rfl))
                 | fail)
              refine ⟨(q + 1, List.zipWith max c cl, done ++ [⟨false, cl, e⟩], true), rfl, rfl, ⟨by dsimp only; omega, by simp; omega, okay_step (a := ⟨false, cl, e⟩) hok hra hcf hz1 hz2⟩, by dsimp only; omega⟩
          ·
            have hpr : (SAct.mk true cl e).ev.past.length = e.past.length := rfl
            have hap : actsE done ++ actsE [⟨true, cl, e⟩] = actsE (done ++ [⟨true, cl, e⟩]) := by simp [actsE]
            obtain ⟨hfm, hn2⟩ := act_write hra rfl
            simp only at hfm hn2
            have hl2 : e.past.length = c.length := by omega
            have hW := wrote_c (c := c) hc5 e (by omega) h2
            cases hcf : rContB e.past c with
            | false =>
              have hs : wroteS c e = (9, c) := by simp [wroteS, wrB, hfm, hl2, cont_eq', hcf]
              rw [hs] at hW
              have hI := rints_c (a := c) (b := c) (by omega) (by omega)
              rw [beq_self_eq_true] at hI
              repeat' (first
                 | (with_reducible apply EvK.seq)
                 | (with_reducible apply EvK.block)
                 | (with_reducible apply EvK.text)
                 | (with_reducible apply EvK.skip)
                 | (with_reducible apply thenK_n)
                 | (with_reducible apply blockK_n)
                 | ((with_reducible apply EvK.cond_t); (case hc => exact rfl))
                 | ((with_reducible apply EvK.cond_f); (case hc => exact rfl))
                 | ((with_reducible apply EvO.spd_t); (case hp => first | assumption | omega))
                 | ((with_reducible apply EvO.spd_f); (case hp => first | assumption | omega))
                 | ((with_reducible apply EvO.spn_f); (case hp => first | assumption | omega))
                 | (with_reducible apply EvO.nilT)
                 | ((with_reducible apply EvO.gt0); (case hW => exact rfl); (case hx => first
                    | ((with_reducible apply OpR.mv); (conv => lhs; whnf); try exact rfl)
                    | ((with_reducible apply OpR.callF); (case hcal => exact rfl); (case hav => exact rfl); (case hx => exact rfl); (case hh => exact rfl); (case hm => exact rfl); (case hcl => exact hI); (case hr => exact rfl))
                    | ((with_reducible apply OpR.callQ [0]); (case hdr => exact rfl); (case hcal => exact rfl); (case hav => exact rfl); (case hx => exact rfl); (case hh => exact rfl); (case hs0 => kernel_rfl); (case hf => kernel_rfl); (case hg => exact rfl); (case hc => kernel_rfl); (case hm => exact rfl); (case hb => exact rfl); (case hcl => exact hck); (case hk => exact rfl); (case hv => (conv => lhs; whnf); try exact rfl); (case hl => (repeat' (first | exact LEq.nil | ((with_reducible apply LEq.cons); (case h => (conv => lhs; whnf); try exact rfl)) | (apply LEq.cons; (case h => (conv => lhs; whnf); try exact rfl))))); (case hq => exact rfl))
                    | exact OpR.r fun _ => rfl))
                 | ((with_reducible apply EvO.u0); (case hx => first
                    | ((with_reducible apply OpR.mv); (conv => lhs; whnf); try exact rfl)
                    | ((with_reducible apply OpR.asg); (conv => lhs; whnf); try exact rfl)
                    | ((with_reducible apply OpR.pk_f); (case hc => exact rfl); (case h => (conv => lhs; whnf); try exact rfl))
                    | ((with_reducible apply OpR.callF); (case hcal => exact rfl); (case hav => exact rfl); (case hx => exact rfl); (case hh => exact rfl); (case hm => exact rfl); (case hcl => exact hA); (case hr => exact rfl))
                    | ((with_reducible apply OpR.callQ [0]); (case hdr => exact rfl); (case hcal => exact rfl); (case hav => exact rfl); (case hx => exact rfl); (case hh => exact rfl); (case hs0 => kernel_rfl); (case hf => kernel_rfl); (case hg => exact rfl); (case hc => kernel_rfl); (case hm => exact rfl); (case hb => exact rfl); (case hcl => exact hck); (case hk => exact rfl); (case hv => (conv => lhs; whnf); try exact rfl); (case hl => (repeat' (first | exact LEq.nil | ((with_reducible apply LEq.cons); (case h => (conv => lhs; whnf); try exact rfl)) | (apply LEq.cons; (case h => (conv => lhs; whnf); try exact rfl))))); (case hq => exact rfl))
                    | ((with_reducible apply OpR.callQ [0]); (case hdr => exact rfl); (case hcal => exact rfl); (case hav => exact rfl); (case hx => exact rfl); (case hh => exact rfl); (case hs0 => kernel_rfl); (case hf => kernel_rfl); (case hg => exact rfl); (case hc => kernel_rfl); (case hm => exact rfl); (case hb => exact rfl); (case hcl => exact hW); (case hk => exact rfl); (case hv => (conv => lhs; whnf); try exact rfl); (case hl => (repeat' (first | exact LEq.nil | ((with_reducible apply LEq.cons); (case h => (conv => lhs; whnf); try exact rfl)) | (apply LEq.cons; (case h => (conv => lhs; whnf); try exact rfl))))); (case hq => exact rfl))
                    | ((with_reducible apply OpR.inc); (case hx => exact rfl); (case hy => exact rfl); (case h => omega))
                    | ((with_reducible apply OpR.ix); (case he => first | (with_reducible exact el0) | (with_reducible exact el1) | (with_reducible exact el2) | (with_reducible exact el3) | (with_reducible exact el4) | (with_reducible exact el5) | (with_reducible exact el6) | (with_reducible exact el7) | exact rfl); (case hx => exact rfl); (case hi => exact rfl); (case hc => assumption); (case hz => exact rfl))
                    | ((with_reducible apply OpR.fal); (case hy => exact rfl); (case ho => exact rfl); (case hn => (conv => lhs; whnf); try exact rfl))
                    | ((with_reducible apply OpR.al); (case hs => exact fun _ => rfl); (case hz => exact rfl); (case hc => (repeat' (first | exact LEq.nil | ((with_reducible apply LEq.cons); (case h => (conv => lhs; whnf); try exact rfl)) | (apply LEq.cons; (case h => (conv => lhs; whnf); try exact rfl))))); (case hn => (first | exact ln0 | exact ln1 | exact ln2 | exact ln3 | exact ln4 | exact ln5 | exact ln6 | exact ln7 | exact ln8 | exact ln9 | exact ln10 | exact ln11 | exact ln12 | exact ln13 | exact ln14)); (case hf => (repeat' (first | exact LEq.nil | ((with_reducible apply LEq.cons); (case h => (conv => lhs; whnf); try exact rfl)) | (apply LEq.cons; (case h => (conv => lhs; whnf); try exact rfl))))))
                    | ((with_reducible apply OpR.stw); (case hs => exact fun _ => rfl); (case ha => exact rfl); (case hy => exact rfl); (case ht => first | (with_reducible exact sz0) | (with_reducible exact sz1) | (with_reducible exact sz2) | (with_reducible exact sz3) | (with_reducible exact sz4) | (with_reducible exact sz5) | (with_reducible exact sz6) | (with_reducible exact sz7) | (with_reducible exact sz8) | (with_reducible exact sz9) | exact rfl); (case ho => kernel_rfl); (case hl => kernel_rfl); (case hb => exact rfl); (case hc => kernel_rfl); (case hf => (repeat' (first | exact LEq.nil | ((with_reducible apply LEq.cons); (case h => (conv => lhs; whnf); try exact rfl)) | (apply LEq.cons; (case h => (conv => lhs; whnf); try exact rfl))))))
                    | ((with_reducible apply OpR.ldw); (case hy => exact rfl); (case ht => first | (with_reducible exact sz0) | (with_reducible exact sz1) | (with_reducible exact sz2) | (with_reducible exact sz3) | (with_reducible exact sz4) | (with_reducible exact sz5) | (with_reducible exact sz6) | (with_reducible exact sz7) | (with_reducible exact sz8) | (with_reducible exact sz9)); (case hb => exact rfl); (case hl => kernel_rfl))
                    | ((with_reducible apply OpR.ldt); (case hy => exact rfl); (case ht => first | (with_reducible exact sz0) | (with_reducible exact sz1) | (with_reducible exact sz2) | (with_reducible exact sz3) | (with_reducible exact sz4) | (with_reducible exact sz5) | (with_reducible exact sz6) | (with_reducible exact sz7) | (with_reducible exact sz8) | (with_reducible exact sz9)); (case hb => exact rfl); (case hl => kernel_rfl); (case hv => exact rfl); (case hx => (repeat' (first | exact Prs.nil | (apply Prs.cons)))))
                    | exact OpR.r fun _ => rfl))
                 | fail)
              refine ⟨(q + 1, c, done, t), rfl, rfl, ⟨by dsimp only; omega, by dsimp only; omega, hok⟩, by dsimp only; omega⟩
            | true =>
              have hs : wroteS c e = (0, withS c e) := by simp [wroteS, wrB, ackS, withS, hfm, hl2, cont_eq', hcf]
              obtain ⟨hp1, hp2, hp3, hp4, hp5⟩ := formB_ok hfm
              obtain ⟨hz1, hz2⟩ := zip_cont h2 (valid_set hp1 e.r.toNat (n := e.n) (by omega) hp5) (by simp; omega)
              have hl' : (withS c e).length = c.length := by simp [withS]; omega
              have hc0' : withS c e ≠ [] := by intro h; rw [h] at hl'; simp at hl'; omega
              have hzc : rContB (withS c e) c = true := hz1
              have hkn : knows (withS c e) ⟨true, cl, e⟩ = true := by
                show rHasB (withS c e) e = true
                refine rHas_mono hp2 hz2 ?_
                simp [rHasB, List.getElem?_set_self (show e.r.toNat < e.past.length by omega)]
                omega
              rw [hs] at hW
              have hck2 := clock_c (c := withS c e) (by omega) hc0'
              have hI := rcont_c (a := withS c e) (b := c) (by omega) (by omega)
              rw [hzc] at hI
              repeat' (first
                 | (with_reducible apply EvK.seq)
                 | (with_reducible apply EvK.block)
                 | (with_reducible apply EvK.text)
                 | (with_reducible apply EvK.skip)
                 | (with_reducible apply EvK.exit)
                 | (with_reducible apply thenK_n)
                 | (with_reducible apply thenK_e)
                 | (with_reducible apply blockK_h)
                 | ((with_reducible apply EvK.cond_t); (case hc => exact rfl))
                 | ((with_reducible apply EvK.cond_f); (case hc => exact rfl))
                 | ((with_reducible apply EvO.spd_t); (case hp => first | assumption | omega))
                 | (with_reducible apply EvO.nilT)
                 | ((with_reducible apply EvO.u); (case hx => ((with_reducible apply OpR.apr); (case hs => exact fun _ => rfl); (case ha => exact rfl); (case ht => exact rfl); (case hr => first | (with_reducible exact rw0) | (with_reducible exact rw1) | (with_reducible exact rw2) | (with_reducible exact rw3) | (with_reducible exact rw4) | exact rfl); (case hx => exact rfl); (case hy => exact rfl); (case hn => exact rfl); (case hb => exact rfl); (case hok => exact rfl); (case hlen => exact lenA (by simp [actsE_len]; omega)); (case hv => exact hap); (case hk => (repeat' (first | exact KFr.nil | (with_reducible apply KFr.row) | (with_reducible apply KFr.boxt) | ((apply KFr.box); (case hd => (repeat' (first | exact LEq.nil | ((with_reducible apply LEq.cons); (case h => (conv => lhs; whnf); try exact rfl)) | (apply LEq.cons; (case h => (conv => lhs; whnf); try exact rfl))))))))); (case hf => (repeat' (first | exact LEq.nil | ((with_reducible apply LEq.cons); (case h => (conv => lhs; whnf); try exact rfl)) | (apply LEq.cons; (case h => (conv => lhs; whnf); try exact rfl))))))))
                 | ((with_reducible apply EvO.u0); (case hx => first
                    | ((with_reducible apply OpR.mv); (conv => lhs; whnf); try exact rfl)
                    | ((with_reducible apply OpR.asg); (conv => lhs; whnf); try exact rfl)
                    | ((with_reducible apply OpR.bsl (es := actsE [⟨true, cl, e⟩])); (case hw => exact rfl); (case ho => kernel_rfl); (case h => kernel_rfl))
                    | ((with_reducible apply OpR.callF); (case hcal => exact rfl); (case hav => exact rfl); (case hx => exact rfl); (case hh => exact rfl); (case hm => exact rfl); (case hcl => exact hA); (case hr => exact rfl))
                    | ((with_reducible apply OpR.callF); (case hcal => exact rfl); (case hav => exact rfl); (case hx => exact rfl); (case hh => exact rfl); (case hm => exact rfl); (case hcl => exact hI); (case hr => exact rfl))
                    | ((with_reducible apply OpR.callQ [0]); (case hdr => exact rfl); (case hcal => exact rfl); (case hav => exact rfl); (case hx => exact rfl); (case hh => exact rfl); (case hs0 => kernel_rfl); (case hf => kernel_rfl); (case hg => exact rfl); (case hc => kernel_rfl); (case hm => exact rfl); (case hb => exact rfl); (case hcl => exact hck); (case hk => exact rfl); (case hv => (conv => lhs; whnf); try exact rfl); (case hl => (repeat' (first | exact LEq.nil | ((with_reducible apply LEq.cons); (case h => (conv => lhs; whnf); try exact rfl)) | (apply LEq.cons; (case h => (conv => lhs; whnf); try exact rfl))))); (case hq => exact rfl))
                    | ((with_reducible apply OpR.callQ [0]); (case hdr => exact rfl); (case hcal => exact rfl); (case hav => exact rfl); (case hx => exact rfl); (case hh => exact rfl); (case hs0 => kernel_rfl); (case hf => kernel_rfl); (case hg => exact rfl); (case hc => kernel_rfl); (case hm => exact rfl); (case hb => exact rfl); (case hcl => exact hW); (case hk => exact rfl); (case hv => (conv => lhs; whnf); try exact rfl); (case hl => (repeat' (first | exact LEq.nil | ((with_reducible apply LEq.cons); (case h => (conv => lhs; whnf); try exact rfl)) | (apply LEq.cons; (case h => (conv => lhs; whnf); try exact rfl))))); (case hq => exact rfl))
                    | ((with_reducible apply OpR.callQ [0]); (case hdr => exact rfl); (case hcal => exact rfl); (case hav => exact rfl); (case hx => exact rfl); (case hh => exact rfl); (case hs0 => kernel_rfl); (case hf => kernel_rfl); (case hg => exact rfl); (case hc => kernel_rfl); (case hm => exact rfl); (case hb => exact rfl); (case hcl => exact hck2); (case hk => exact rfl); (case hv => (conv => lhs; whnf); try exact rfl); (case hl => (repeat' (first | exact LEq.nil | ((with_reducible apply LEq.cons); (case h => (conv => lhs; whnf); try exact rfl)) | (apply LEq.cons; (case h => (conv => lhs; whnf); try exact rfl))))); (case hq => exact rfl))
                    | ((with_reducible apply OpR.inc); (case hx => exact rfl); (case hy => exact rfl); (case h => omega))
                    | ((with_reducible apply OpR.ix); (case he => first | (with_reducible exact el0) | (with_reducible exact el1) | (with_reducible exact el2) | (with_reducible exact el3) | (with_reducible exact el4) | (with_reducible exact el5) | (with_reducible exact el6) | (with_reducible exact el7) | exact rfl); (case hx => exact rfl); (case hi => exact rfl); (case hc => assumption); (case hz => exact rfl))
                    | ((with_reducible apply OpR.fal); (case hy => exact rfl); (case ho => exact rfl); (case hn => (conv => lhs; whnf); try exact rfl))
                    | ((with_reducible apply OpR.al); (case hs => exact fun _ => rfl); (case hz => exact rfl); (case hc => (repeat' (first | exact LEq.nil | ((with_reducible apply LEq.cons); (case h => (conv => lhs; whnf); try exact rfl)) | (apply LEq.cons; (case h => (conv => lhs; whnf); try exact rfl))))); (case hn => (first | exact ln0 | exact ln1 | exact ln2 | exact ln3 | exact ln4 | exact ln5 | exact ln6 | exact ln7 | exact ln8 | exact ln9 | exact ln10 | exact ln11 | exact ln12 | exact ln13 | exact ln14)); (case hf => (repeat' (first | exact LEq.nil | ((with_reducible apply LEq.cons); (case h => (conv => lhs; whnf); try exact rfl)) | (apply LEq.cons; (case h => (conv => lhs; whnf); try exact rfl))))))
                    | ((with_reducible apply OpR.stw); (case hs => exact fun _ => rfl); (case ha => exact rfl); (case hy => exact rfl); (case ht => first | (with_reducible exact sz0) | (with_reducible exact sz1) | (with_reducible exact sz2) | (with_reducible exact sz3) | (with_reducible exact sz4) | (with_reducible exact sz5) | (with_reducible exact sz6) | (with_reducible exact sz7) | (with_reducible exact sz8) | (with_reducible exact sz9) | exact rfl); (case ho => kernel_rfl); (case hl => kernel_rfl); (case hb => exact rfl); (case hc => kernel_rfl); (case hf => (repeat' (first | exact LEq.nil | ((with_reducible apply LEq.cons); (case h => (conv => lhs; whnf); try exact rfl)) | (apply LEq.cons; (case h => (conv => lhs; whnf); try exact rfl))))))
                    | ((with_reducible apply OpR.ldw); (case hy => exact rfl); (case ht => first | (with_reducible exact sz0) | (with_reducible exact sz1) | (with_reducible exact sz2) | (with_reducible exact sz3) | (with_reducible exact sz4) | (with_reducible exact sz5) | (with_reducible exact sz6) | (with_reducible exact sz7) | (with_reducible exact sz8) | (with_reducible exact sz9)); (case hb => exact rfl); (case hl => kernel_rfl))
                    | ((with_reducible apply OpR.ldt); (case hy => exact rfl); (case ht => first | (with_reducible exact sz0) | (with_reducible exact sz1) | (with_reducible exact sz2) | (with_reducible exact sz3) | (with_reducible exact sz4) | (with_reducible exact sz5) | (with_reducible exact sz6) | (with_reducible exact sz7) | (with_reducible exact sz8) | (with_reducible exact sz9)); (case hb => exact rfl); (case hl => kernel_rfl); (case hv => exact rfl); (case hx => (repeat' (first | exact Prs.nil | (apply Prs.cons)))))
                    | exact OpR.r fun _ => rfl))
                 | fail)
              refine ⟨(q + 1, withS c e, done ++ [⟨true, cl, e⟩], true), rfl, rfl, ⟨by dsimp only; omega, by simp; omega, okay_step (a := ⟨true, cl, e⟩) hok hra hcf hzc hkn⟩, by dsimp only; omega⟩
      ·
        have hs := scheck_c n done (by omega) (fun a ha => by
          have h := (hok.2.2.1 a ha).1
          cases hw : a.wr with
          | true =>
            have := act_write h hw
            unfold rActB at h
            rw [if_pos hw] at h
            simp at h
            rw [h.1.1]
            exact ⟨by simp, by omega⟩
          | false =>
            have := act_read h hw
            unfold rActB at h
            rw [if_neg (by rw [hw]; decide)] at h
            simp at h
            refine ⟨by omega, ?_⟩
            have h9 : a.ev.past = [] := by simp_all
            rw [h9]; simp)
        have he : checkS n done = (0, -1) := by unfold checkS; rw [if_neg (by omega)]; exact hok.2.2.2
        rw [he] at hs
        repeat' (first
           | (with_reducible apply EvK.seq)
           | (with_reducible apply EvK.text)
           | (with_reducible apply EvK.exit)
           | (with_reducible apply EvK.ret)
           | (with_reducible apply thenK_n)
           | (with_reducible apply thenK_e)
           | (with_reducible apply blockK_h)
           | ((with_reducible apply EvK.cond_f); (case hc => exact rfl))
           | ((with_reducible apply EvO.spd_t); (case hp => first | assumption | omega))
           | ((with_reducible apply EvO.spd_f); (case hp => first | assumption | omega))
           | ((with_reducible apply EvO.spd_yt); (case hp => first | assumption | omega))
           | (with_reducible apply EvO.nilT)
           | ((with_reducible apply EvO.gt0); (case hW => exact rfl); (case hx => first
              | ((with_reducible apply OpR.mv); (conv => lhs; whnf); try exact rfl)
              | exact OpR.r fun _ => rfl))
           | ((with_reducible apply EvO.u0); (case hx => first
              | ((with_reducible apply OpR.mv); (conv => lhs; whnf); try exact rfl)
              | ((with_reducible apply OpR.asg); (conv => lhs; whnf); try exact rfl)
              | ((with_reducible apply OpR.pk_t); (case hc => exact rfl); (case h => (conv => lhs; whnf); try exact rfl))
              | ((with_reducible apply OpR.callF); (case hcal => exact rfl); (case hav => exact rfl); (case hx => exact rfl); (case hh => exact rfl); (case hm => exact rfl); (case hcl => exact hs); (case hr => exact rfl))
              | exact OpR.r fun _ => rfl))
           | fail)
        exact ⟨.inr rfl, rfl⟩
theorem law_guar_all (xs : List AV) (h : Args Tryd.prog 8 Tryd.f5.params.toList xs) : Cl cfg 5 (xs.map .t) [] (.t (.bool true)) [] := by
  rw [Tryd.params5] at h
  obtain ⟨x0, _, rfl, h0, x1, _, rfl, h1, rfl⟩ := h
  obtain ⟨n, rfl⟩ := arg_int h0
  obtain ⟨l, rfl, hl, hc⟩ := arg_acts h1
  exact law_guar n l hl hc
end Go.Proofs.YtjdhnoffoknlnaaDoor
