/- Law 52: SessionOperations. No condition. -/
import Derived.Test.YtjdhnoffoknlnaaDoorWW
import Derived.Test.YtjdhnoffoknlnaaDoorWR
namespace Go.Proofs.YtjdhnoffoknlnaaDoor
set_option linter.unusedSimpArgs false
set_option linter.unusedVariables false
set_option linter.unusedSectionVars false
open Go.RowKit
set_option maxRecDepth 100000
set_option maxHeartbeats 8000000

theorem cont_eq' (a b : List Int) : contB' a b = rContB a b := cont_eq a b
theorem zip_valid {a b : List Int} (ha : validB a = true) (hb : validB b = true) (h : a.length = b.length) : validB (List.zipWith max a b) = true := by
  simp only [validB, Bool.and_eq_true, List.all_eq_true, decide_eq_true_eq] at ha hb ⊢
  have hl : (List.zipWith max a b).length = a.length := by simp; omega
  refine ⟨⟨fun y hy => ?_, by omega⟩, by omega⟩
  obtain ⟨k, hk⟩ := List.mem_iff_getElem?.1 hy
  rw [List.getElem?_zipWith] at hk
  cases h1 : a[k]? with
  | none => rw [h1] at hk; cases hk
  | some x =>
    cases h2 : b[k]? with
    | none => rw [h1, h2] at hk; cases hk
    | some z =>
      rw [h1, h2] at hk
      cases hk
      have := ha.1.1 x (List.mem_of_getElem? h1)
      have := hb.1.1 z (List.mem_of_getElem? h2)
      rcases Int.le_total x z with h3 | h3
      · rw [show max x z = z by omega]; assumption
      · rw [show max x z = x by omega]; assumption
theorem law_ops (n : Int) (l : List SAct) (hl : l.length ≤ 17592186044416) (hc : ∀ a ∈ l, a.cl.length ≤ 17592186044416 ∧ a.ev.past.length ≤ 17592186044416) : Cl cfg 4 [.t (.int .i64 n), .t (actsA l)] [] (.t (.bool true)) [] := by
  have hf := few_c l (by omega)
  refine Cl.of_body rfl Tryd.func4 rfl rfl rfl ?_
  cases hfew : fewActs l with
  | false =>
    rw [hfew] at hf
    repeat' (first
       | (with_reducible apply EvK.seq)
       | (with_reducible apply EvK.text)
       | (with_reducible apply EvK.skip)
       | (with_reducible apply EvK.ret)
       | (with_reducible apply thenK_n)
       | (with_reducible apply thenK_r)
       | ((with_reducible apply EvK.cond_t); (case hc => exact rfl))
       | ((with_reducible apply EvK.cond_f); (case hc => exact rfl))
       | (with_reducible apply EvO.nilT)
       | ((with_reducible apply EvO.u0); (case hx => first
          | ((with_reducible apply OpR.mv); (conv => lhs; whnf); try exact rfl)
          | ((with_reducible apply OpR.asg); (conv => lhs; whnf); try exact rfl)
          | ((with_reducible apply OpR.callF); (case hcal => exact rfl); (case hav => exact rfl); (case hx => exact rfl); (case hh => exact rfl); (case hm => exact rfl); (case hcl => exact awake_c); (case hr => exact rfl))
          | ((with_reducible apply OpR.callF); (case hcal => exact rfl); (case hav => exact rfl); (case hx => exact rfl); (case hh => exact rfl); (case hm => exact rfl); (case hcl => exact hf); (case hr => exact rfl))
          | exact OpR.r fun _ => rfl))
       | fail)
    exact ⟨.inr rfl, rfl⟩
  | true =>
    rw [hfew] at hf
    have hfa : l.all few1 = true := by simp only [fewActs, Bool.and_eq_true] at hfew; exact hfew.1
    by_cases hn : n < 1 ∨ 5 < n
    ·
      have h00 : ([] : List (List AV)).length = 0 := rfl
      repeat' (first
         | (with_reducible apply EvK.seq)
         | (with_reducible apply EvK.text)
         | (with_reducible apply EvK.skip)
         | (with_reducible apply EvK.ret)
         | (with_reducible apply thenK_n)
         | (with_reducible apply thenK_r)
         | ((with_reducible apply EvK.cond_t); (case hc => exact rfl))
         | ((with_reducible apply EvK.cond_f); (case hc => exact rfl))
         | ((with_reducible apply EvO.spd_f); (case hp => first | assumption | omega))
         | ((with_reducible apply EvO.spd_yf); (case hp => first | assumption | omega))
         | ((with_reducible apply EvO.spn_yt); (case hp => first | assumption | omega))
         | ((with_reducible apply EvO.spn_yf); (case hp => first | assumption | omega))
         | (with_reducible apply EvO.nilT)
         | ((with_reducible apply EvO.gt0); (case hW => exact rfl); (case hx => first
            | ((with_reducible apply OpR.mv); (conv => lhs; whnf); try exact rfl)
            | ((with_reducible apply OpR.pk_t); (case hc => exact rfl); (case h => (conv => lhs; whnf); try exact rfl))
            | exact OpR.r fun _ => rfl))
         | ((with_reducible apply EvO.u0); (case hx => first
            | ((with_reducible apply OpR.mv); (conv => lhs; whnf); try exact rfl)
            | ((with_reducible apply OpR.asg); (conv => lhs; whnf); try exact rfl)
            | ((with_reducible apply OpR.pk_f); (case hc => exact rfl); (case h => (conv => lhs; whnf); try exact rfl))
            | ((with_reducible apply OpR.callF); (case hcal => exact rfl); (case hav => exact rfl); (case hx => exact rfl); (case hh => exact rfl); (case hm => exact rfl); (case hcl => exact awake_c); (case hr => exact rfl))
            | ((with_reducible apply OpR.callF); (case hcal => exact rfl); (case hav => exact rfl); (case hx => exact rfl); (case hh => exact rfl); (case hm => exact rfl); (case hcl => exact hf); (case hr => exact rfl))
            | ((with_reducible apply OpR.callF); (case hcal => exact rfl); (case hav => exact rfl); (case hx => exact rfl); (case hh => exact rfl); (case hm => exact rfl); (case hcl => exact new_bad hn); (case hr => exact rfl))
            | ((with_reducible apply OpR.callF); (case hcal => exact rfl); (case hav => exact rfl); (case hx => exact rfl); (case hh => exact rfl); (case hm => exact rfl); (case hcl => exact rzero_bad hn); (case hr => exact rfl))
            | ((with_reducible apply OpR.len); (case ha => exact rfl); (case hy => exact rfl); (case ht => exact rfl); (case hs => exact rfl); (case hn => first | exact List.length_map _ | exact rfl))
            | exact OpR.r fun _ => rfl))
         | fail)
      exact ⟨.inr rfl, rfl⟩
    ·
      have hn0 : 1 ≤ n := by omega
      have hn5 : n ≤ 5 := by omega
      have hzl := intsE_len (zs n)
      have hzn := zs_len hn0
      repeat' (first
         | (with_reducible apply EvK.seq)
         | (with_reducible apply EvK.block)
         | (with_reducible apply EvK.text)
         | (with_reducible apply EvK.skip)
         | (with_reducible apply thenK_n)
         | ((with_reducible apply EvK.cond_f); (case hc => exact rfl))
         | ((with_reducible apply EvO.spd_t); (case hp => first | assumption | omega))
         | ((with_reducible apply EvO.spd_yt); (case hp => first | assumption | omega))
         | ((with_reducible apply EvO.spn_yf); (case hp => first | assumption | omega))
         | (with_reducible apply EvO.nilT)
         | ((with_reducible apply EvO.gf); (case hW => exact rfl))
         | ((with_reducible apply EvO.gt0); (case hW => exact rfl); (case hx => first
            | ((with_reducible apply OpR.mv); (conv => lhs; whnf); try exact rfl)
            | ((with_reducible apply OpR.pk_f); (case hc => exact rfl); (case h => (conv => lhs; whnf); try exact rfl))
            | exact OpR.r fun _ => rfl))
         | ((with_reducible apply EvO.u0); (case hx => first
            | ((with_reducible apply OpR.mv); (conv => lhs; whnf); try exact rfl)
            | ((with_reducible apply OpR.asg); (conv => lhs; whnf); try exact rfl)
            | ((with_reducible apply OpR.pk_f); (case hc => exact rfl); (case h => (conv => lhs; whnf); try exact rfl))
            | ((with_reducible apply OpR.callF); (case hcal => exact rfl); (case hav => exact rfl); (case hx => exact rfl); (case hh => exact rfl); (case hm => exact rfl); (case hcl => exact awake_c); (case hr => exact rfl))
            | ((with_reducible apply OpR.callF); (case hcal => exact rfl); (case hav => exact rfl); (case hx => exact rfl); (case hh => exact rfl); (case hm => exact rfl); (case hcl => exact hf); (case hr => exact rfl))
            | ((with_reducible apply OpR.callX); (case hcal => exact rfl); (case hav => exact rfl); (case hx => exact rfl); (case hh => exact rfl); (case hm => exact rfl); (case hcl => exact new_ok hn0 hn5); (case hr => exact rfl); (case hd => exact rfl); (case hq => kernel_rfl); (case hn => (first | exact ln0 | exact ln1 | exact ln2 | exact ln3 | exact ln4 | exact ln5 | exact ln6 | exact ln7 | exact ln8 | exact ln9 | exact ln10 | exact ln11 | exact ln12 | exact ln13 | exact ln14)); (case hv => (conv => lhs; whnf); try exact rfl); (case he => (repeat' (first | exact XFr.nil | (with_reducible apply XFr.row) | (with_reducible apply XFr.boxt) | ((apply XFr.box); (case hd => (repeat' (first | exact LEq.nil | ((with_reducible apply LEq.cons); (case h => (conv => lhs; whnf); try exact rfl)) | (apply LEq.cons; (case h => (conv => lhs; whnf); try exact rfl))))))))); (case hf => (repeat' (first | exact LEq.nil | ((with_reducible apply LEq.cons); (case h => (conv => lhs; whnf); try exact rfl)) | (apply LEq.cons; (case h => (conv => lhs; whnf); try exact rfl))))))
            | ((with_reducible apply OpR.callX); (case hcal => exact rfl); (case hav => exact rfl); (case hx => exact rfl); (case hh => exact rfl); (case hm => exact rfl); (case hcl => exact rzero_ok hn0 hn5); (case hr => exact rfl); (case hd => exact rfl); (case hq => kernel_rfl); (case hn => (first | exact ln0 | exact ln1 | exact ln2 | exact ln3 | exact ln4 | exact ln5 | exact ln6 | exact ln7 | exact ln8 | exact ln9 | exact ln10 | exact ln11 | exact ln12 | exact ln13 | exact ln14)); (case hv => (conv => lhs; whnf); try exact rfl); (case he => (repeat' (first | exact XFr.nil | (with_reducible apply XFr.row) | (with_reducible apply XFr.boxt) | ((apply XFr.box); (case hd => (repeat' (first | exact LEq.nil | ((with_reducible apply LEq.cons); (case h => (conv => lhs; whnf); try exact rfl)) | (apply LEq.cons; (case h => (conv => lhs; whnf); try exact rfl))))))))); (case hf => (repeat' (first | exact LEq.nil | ((with_reducible apply LEq.cons); (case h => (conv => lhs; whnf); try exact rfl)) | (apply LEq.cons; (case h => (conv => lhs; whnf); try exact rfl))))))
            | ((with_reducible apply OpR.len); (case ha => exact rfl); (case hy => exact rfl); (case ht => exact rfl); (case hs => exact rfl); (case hn => first | exact List.length_map _ | exact rfl))
            | exact OpR.r fun _ => rfl))
         | fail)
      apply EvK.loopV
      case ho => exact rfl
      case hp => exact rfl
      case hl => exact rfl
      case hs => repeat' (first | exact Slots.nil | (apply Slots.cons; (case hv => (conv => lhs; whnf); try exact rfl)))
      refine EvL.indF (fun s : Nat × List Int => [(7, .t (intsA s.2)), (48, .t (.int .i64 (s.1 : Int)))]) (fun s => [sesB s.2, .row true false 1 (intsE (zs n))]) (fun s => s.1 ≤ l.length ∧ validB s.2 = true ∧ (s.2.length : Int) = n) (fun s => l.length - s.1) (0, zs n) rfl rfl ⟨by simp, zs_valid hn0 hn5, hzn⟩ (fun s hs => ?_)
      obtain ⟨q, c⟩ := s
      obtain ⟨h1, h2, h3⟩ := hs
      simp only at h1 h2 h3
      dsimp only
      have hc5 : c.length ≤ 1000 := by omega
      have hc0 : c ≠ [] := by rintro rfl; simp at h3; omega
      rcases Nat.lt_or_ge q l.length with h4 | h4
      ·
        obtain ⟨a, ha⟩ := get_of_lt h4
        have hac := actsE_get ha
        have hfw : few1 a = true := List.all_eq_true.1 hfa a (List.mem_of_getElem? ha)
        simp only [few1, Bool.and_eq_true, decide_eq_true_eq] at hfw
        obtain ⟨wr, cl, e⟩ := a
        obtain ⟨hcl, hep⟩ := hfw
        simp only at hcl hep
        have hel := intsE_len e.past
        have hcll := intsE_len cl
        cases wr
        ·
          have hpr : (SAct.mk false cl e).cl.length = cl.length := rfl
          have hV := rvalid_c (xs := cl) (by omega)
          have hR := ready_c (c := c) (x := cl) hc5 (by omega)
          have hRd := read_c (c := c) (x := cl) hc5 (by omega) h2
          have hCt := rcont_c (a := cl) (b := c) (by omega) (by omega)
          rw [cont_eq'] at hR
          cases hv : validB cl with
          | false =>
            have hs : readS c cl = (1, c) := by simp [readS, fitsB, hv]
            have hcf : rContB cl c = false := by simp [rContB, hv]
            rw [hs] at hRd
            rw [hcf] at hR
            rw [hv] at hV
            have hck := clock_c (c := c) (by omega) hc0
            have hI := rints_c (a := c) (b := c) (by omega) (by omega)
            rw [beq_self_eq_true] at hI
            have hee : bs (fmtS (c)) = bs (fmtS (c)) := rfl
            repeat' (first
               | (with_reducible apply EvK.seq)
               | (with_reducible apply EvK.block)
               | (with_reducible apply EvK.text)
               | (with_reducible apply EvK.skip)
               | (with_reducible apply thenK_n)
               | (with_reducible apply blockK_n)
               | ((with_reducible apply EvK.cond_t); (case hc => exact rfl))
               | ((with_reducible apply EvK.cond_f); (case hc => exact rfl))
               | ((with_reducible apply EvO.spd_t); (case hp => first | assumption | omega))
               | ((with_reducible apply EvO.spd_f); (case hp => first | assumption | omega))
               | ((with_reducible apply EvO.spn_yf); (case hp => first | assumption | omega))
               | (with_reducible apply EvO.nilT)
               | (with_reducible apply EvO.nilB)
               | ((with_reducible apply EvO.gf); (case hW => exact rfl))
               | ((with_reducible apply EvO.gt0); (case hW => exact rfl); (case hx => first
                  | ((with_reducible apply OpR.mv); (conv => lhs; whnf); try exact rfl)
                  | ((with_reducible apply OpR.callF); (case hcal => exact rfl); (case hav => exact rfl); (case hx => exact rfl); (case hh => exact rfl); (case hm => exact rfl); (case hcl => exact rformat_c h2); (case hr => exact rfl))
                  | ((with_reducible apply OpR.callP [0]); (case hdr => exact rfl); (case hcal => exact rfl); (case hav => exact rfl); (case hx => exact rfl); (case hh => exact rfl); (case hs0 => kernel_rfl); (case hf => kernel_rfl); (case hg => exact rfl); (case hc => kernel_rfl); (case hm => exact rfl); (case hb => exact rfl); (case hcl => exact hRd); (case hk => exact rfl); (case hr => exact rfl))
                  | ((with_reducible apply OpR.callP [0]); (case hdr => exact rfl); (case hcal => exact rfl); (case hav => exact rfl); (case hx => exact rfl); (case hh => exact rfl); (case hs0 => kernel_rfl); (case hf => kernel_rfl); (case hg => exact rfl); (case hc => kernel_rfl); (case hm => exact rfl); (case hb => exact rfl); (case hcl => exact token_c h2); (case hk => exact rfl); (case hr => exact rfl))
                  | ((with_reducible apply OpR.fal); (case hy => exact rfl); (case ho => exact rfl); (case hn => (conv => lhs; whnf); try exact rfl))
                  | exact OpR.r fun _ => rfl))
               | ((with_reducible apply EvO.u0); (case hx => first
                  | ((with_reducible apply OpR.mv); (conv => lhs; whnf); try exact rfl)
                  | ((with_reducible apply OpR.asg); (conv => lhs; whnf); try exact rfl)
                  | ((with_reducible apply OpR.pk_t); (case hc => exact rfl); (case h => (conv => lhs; whnf); try exact rfl))
                  | ((with_reducible apply OpR.pk_f); (case hc => exact rfl); (case h => (conv => lhs; whnf); try exact rfl))
                  | ((with_reducible apply OpR.callF); (case hcal => exact rfl); (case hav => exact rfl); (case hx => exact rfl); (case hh => exact rfl); (case hm => exact rfl); (case hcl => exact hV); (case hr => exact rfl))
                  | ((with_reducible apply OpR.callF); (case hcal => exact rfl); (case hav => exact rfl); (case hx => exact rfl); (case hh => exact rfl); (case hm => exact rfl); (case hcl => exact hI); (case hr => exact rfl))
                  | ((with_reducible apply OpR.callP [0]); (case hdr => exact rfl); (case hcal => exact rfl); (case hav => exact rfl); (case hx => exact rfl); (case hh => exact rfl); (case hs0 => kernel_rfl); (case hf => kernel_rfl); (case hg => exact rfl); (case hc => kernel_rfl); (case hm => exact rfl); (case hb => exact rfl); (case hcl => exact hR); (case hk => exact rfl); (case hr => exact rfl))
                  | ((with_reducible apply OpR.callP [0]); (case hdr => exact rfl); (case hcal => exact rfl); (case hav => exact rfl); (case hx => exact rfl); (case hh => exact rfl); (case hs0 => kernel_rfl); (case hf => kernel_rfl); (case hg => exact rfl); (case hc => kernel_rfl); (case hm => exact rfl); (case hb => exact rfl); (case hcl => exact hck); (case hk => exact rfl); (case hr => exact rfl))
                  | ((with_reducible apply OpR.inc); (case hx => exact rfl); (case hy => exact rfl); (case h => omega))
                  | ((with_reducible apply OpR.ix); (case he => first | (with_reducible exact el0) | (with_reducible exact el1) | (with_reducible exact el2) | (with_reducible exact el3) | (with_reducible exact el4) | (with_reducible exact el5) | (with_reducible exact el6) | (with_reducible exact el7) | exact rfl); (case hx => exact rfl); (case hi => exact rfl); (case hc => assumption); (case hz => exact rfl))
                  | ((with_reducible apply OpR.fal); (case hy => exact rfl); (case ho => exact rfl); (case hn => (conv => lhs; whnf); try exact rfl))
                  | ((with_reducible apply OpR.al); (case hs => exact fun _ => rfl); (case hz => exact rfl); (case hc => (repeat' (first | exact LEq.nil | ((with_reducible apply LEq.cons); (case h => (conv => lhs; whnf); try exact rfl)) | (apply LEq.cons; (case h => (conv => lhs; whnf); try exact rfl))))); (case hn => (first | exact ln0 | exact ln1 | exact ln2 | exact ln3 | exact ln4 | exact ln5 | exact ln6 | exact ln7 | exact ln8 | exact ln9 | exact ln10 | exact ln11 | exact ln12 | exact ln13 | exact ln14)); (case hf => (repeat' (first | exact LEq.nil | ((with_reducible apply LEq.cons); (case h => (conv => lhs; whnf); try exact rfl)) | (apply LEq.cons; (case h => (conv => lhs; whnf); try exact rfl))))))
                  | ((with_reducible apply OpR.stw); (case hs => exact fun _ => rfl); (case ha => exact rfl); (case hy => exact rfl); (case ht => first | (with_reducible exact sz0) | (with_reducible exact sz1) | (with_reducible exact sz2) | (with_reducible exact sz3) | (with_reducible exact sz4) | (with_reducible exact sz5) | (with_reducible exact sz6) | (with_reducible exact sz7) | (with_reducible exact sz8) | (with_reducible exact sz9) | exact rfl); (case ho => kernel_rfl); (case hl => kernel_rfl); (case hb => exact rfl); (case hc => kernel_rfl); (case hf => (repeat' (first | exact LEq.nil | ((with_reducible apply LEq.cons); (case h => (conv => lhs; whnf); try exact rfl)) | (apply LEq.cons; (case h => (conv => lhs; whnf); try exact rfl))))))
                  | exact OpR.r fun _ => rfl))
               | fail)
            refine ⟨(q + 1, c), rfl, rfl, ⟨by dsimp only; omega, h2, by dsimp only; omega⟩, by dsimp only; omega⟩
          | true =>
            rw [hv] at hV
            by_cases hl2 : cl.length = c.length
            ·
              cases hcf : rContB cl c with
              | false =>
                have hs : readS c cl = (9, c) := by simp [readS, fitsB, hv, hl2, cont_eq', hcf]
                rw [hs] at hRd
                rw [hcf] at hR hCt
                have hck := clock_c (c := c) (by omega) hc0
                have hI := rints_c (a := c) (b := c) (by omega) (by omega)
                rw [beq_self_eq_true] at hI
                have hee : bs (fmtS (c)) = bs (fmtS (c)) := rfl
                repeat' (first
                   | (with_reducible apply EvK.seq)
                   | (with_reducible apply EvK.block)
                   | (with_reducible apply EvK.text)
                   | (with_reducible apply EvK.skip)
                   | (with_reducible apply thenK_n)
                   | (with_reducible apply blockK_n)
                   | ((with_reducible apply EvK.cond_t); (case hc => exact rfl))
                   | ((with_reducible apply EvK.cond_f); (case hc => exact rfl))
                   | ((with_reducible apply EvO.spd_t); (case hp => first | assumption | omega))
                   | ((with_reducible apply EvO.spd_f); (case hp => first | assumption | omega))
                   | ((with_reducible apply EvO.spn_yf); (case hp => first | assumption | omega))
                   | (with_reducible apply EvO.nilT)
                   | (with_reducible apply EvO.nilB)
                   | ((with_reducible apply EvO.gt0); (case hW => exact rfl); (case hx => first
                      | ((with_reducible apply OpR.mv); (conv => lhs; whnf); try exact rfl)
                      | ((with_reducible apply OpR.callF); (case hcal => exact rfl); (case hav => exact rfl); (case hx => exact rfl); (case hh => exact rfl); (case hm => exact rfl); (case hcl => exact rformat_c h2); (case hr => exact rfl))
                      | ((with_reducible apply OpR.callP [0]); (case hdr => exact rfl); (case hcal => exact rfl); (case hav => exact rfl); (case hx => exact rfl); (case hh => exact rfl); (case hs0 => kernel_rfl); (case hf => kernel_rfl); (case hg => exact rfl); (case hc => kernel_rfl); (case hm => exact rfl); (case hb => exact rfl); (case hcl => exact hRd); (case hk => exact rfl); (case hr => exact rfl))
                      | ((with_reducible apply OpR.callP [0]); (case hdr => exact rfl); (case hcal => exact rfl); (case hav => exact rfl); (case hx => exact rfl); (case hh => exact rfl); (case hs0 => kernel_rfl); (case hf => kernel_rfl); (case hg => exact rfl); (case hc => kernel_rfl); (case hm => exact rfl); (case hb => exact rfl); (case hcl => exact token_c h2); (case hk => exact rfl); (case hr => exact rfl))
                      | ((with_reducible apply OpR.len); (case ha => exact rfl); (case hy => exact rfl); (case ht => exact rfl); (case hs => exact rfl); (case hn => first | exact List.length_map _ | exact rfl))
                      | ((with_reducible apply OpR.fal); (case hy => exact rfl); (case ho => exact rfl); (case hn => (conv => lhs; whnf); try exact rfl))
                      | exact OpR.r fun _ => rfl))
                   | ((with_reducible apply EvO.u0); (case hx => first
                      | ((with_reducible apply OpR.mv); (conv => lhs; whnf); try exact rfl)
                      | ((with_reducible apply OpR.asg); (conv => lhs; whnf); try exact rfl)
                      | ((with_reducible apply OpR.pk_f); (case hc => exact rfl); (case h => (conv => lhs; whnf); try exact rfl))
                      | ((with_reducible apply OpR.callF); (case hcal => exact rfl); (case hav => exact rfl); (case hx => exact rfl); (case hh => exact rfl); (case hm => exact rfl); (case hcl => exact hV); (case hr => exact rfl))
                      | ((with_reducible apply OpR.callF); (case hcal => exact rfl); (case hav => exact rfl); (case hx => exact rfl); (case hh => exact rfl); (case hm => exact rfl); (case hcl => exact hCt); (case hr => exact rfl))
                      | ((with_reducible apply OpR.callF); (case hcal => exact rfl); (case hav => exact rfl); (case hx => exact rfl); (case hh => exact rfl); (case hm => exact rfl); (case hcl => exact hI); (case hr => exact rfl))
                      | ((with_reducible apply OpR.callP [0]); (case hdr => exact rfl); (case hcal => exact rfl); (case hav => exact rfl); (case hx => exact rfl); (case hh => exact rfl); (case hs0 => kernel_rfl); (case hf => kernel_rfl); (case hg => exact rfl); (case hc => kernel_rfl); (case hm => exact rfl); (case hb => exact rfl); (case hcl => exact hR); (case hk => exact rfl); (case hr => exact rfl))
                      | ((with_reducible apply OpR.callP [0]); (case hdr => exact rfl); (case hcal => exact rfl); (case hav => exact rfl); (case hx => exact rfl); (case hh => exact rfl); (case hs0 => kernel_rfl); (case hf => kernel_rfl); (case hg => exact rfl); (case hc => kernel_rfl); (case hm => exact rfl); (case hb => exact rfl); (case hcl => exact hck); (case hk => exact rfl); (case hr => exact rfl))
                      | ((with_reducible apply OpR.inc); (case hx => exact rfl); (case hy => exact rfl); (case h => omega))
                      | ((with_reducible apply OpR.ix); (case he => first | (with_reducible exact el0) | (with_reducible exact el1) | (with_reducible exact el2) | (with_reducible exact el3) | (with_reducible exact el4) | (with_reducible exact el5) | (with_reducible exact el6) | (with_reducible exact el7) | exact rfl); (case hx => exact rfl); (case hi => exact rfl); (case hc => assumption); (case hz => exact rfl))
                      | ((with_reducible apply OpR.fal); (case hy => exact rfl); (case ho => exact rfl); (case hn => (conv => lhs; whnf); try exact rfl))
                      | ((with_reducible apply OpR.al); (case hs => exact fun _ => rfl); (case hz => exact rfl); (case hc => (repeat' (first | exact LEq.nil | ((with_reducible apply LEq.cons); (case h => (conv => lhs; whnf); try exact rfl)) | (apply LEq.cons; (case h => (conv => lhs; whnf); try exact rfl))))); (case hn => (first | exact ln0 | exact ln1 | exact ln2 | exact ln3 | exact ln4 | exact ln5 | exact ln6 | exact ln7 | exact ln8 | exact ln9 | exact ln10 | exact ln11 | exact ln12 | exact ln13 | exact ln14)); (case hf => (repeat' (first | exact LEq.nil | ((with_reducible apply LEq.cons); (case h => (conv => lhs; whnf); try exact rfl)) | (apply LEq.cons; (case h => (conv => lhs; whnf); try exact rfl))))))
                      | ((with_reducible apply OpR.stw); (case hs => exact fun _ => rfl); (case ha => exact rfl); (case hy => exact rfl); (case ht => first | (with_reducible exact sz0) | (with_reducible exact sz1) | (with_reducible exact sz2) | (with_reducible exact sz3) | (with_reducible exact sz4) | (with_reducible exact sz5) | (with_reducible exact sz6) | (with_reducible exact sz7) | (with_reducible exact sz8) | (with_reducible exact sz9) | exact rfl); (case ho => kernel_rfl); (case hl => kernel_rfl); (case hb => exact rfl); (case hc => kernel_rfl); (case hf => (repeat' (first | exact LEq.nil | ((with_reducible apply LEq.cons); (case h => (conv => lhs; whnf); try exact rfl)) | (apply LEq.cons; (case h => (conv => lhs; whnf); try exact rfl))))))
                      | exact OpR.r fun _ => rfl))
                   | fail)
                refine ⟨(q + 1, c), rfl, rfl, ⟨by dsimp only; omega, h2, by dsimp only; omega⟩, by dsimp only; omega⟩
              | true =>
                have hs : readS c cl = (0, List.zipWith max c cl) := by simp [readS, fitsB, hv, hl2, cont_eq', hcf]
                have hab : alikeB [c, cl] = true := by simp [alikeB, al1, h2, hv, hl2] <;> omega
                have hj := rjoin_c hab hc5
                have hv' := zip_valid h2 hv hl2.symm
                have hl' : (List.zipWith max c cl).length = c.length := by simp; omega
                have hc0' : List.zipWith max c cl ≠ [] := by intro h; rw [h] at hl'; simp at hl'; omega
                rw [hs] at hRd
                rw [hcf] at hR hCt
                have hck := clock_c (c := List.zipWith max c cl) (by omega) hc0'
                have hI := rints_c (a := List.zipWith max c cl) (b := List.zipWith max c cl) (by omega) (by omega)
                rw [beq_self_eq_true] at hI
                have hee : bs (fmtS (List.zipWith max c cl)) = bs (fmtS (List.zipWith max c cl)) := rfl
                repeat' (first
                   | (with_reducible apply EvK.seq)
                   | (with_reducible apply EvK.block)
                   | (with_reducible apply EvK.text)
                   | (with_reducible apply EvK.skip)
                   | (with_reducible apply thenK_n)
                   | (with_reducible apply blockK_n)
                   | ((with_reducible apply EvK.cond_t); (case hc => exact rfl))
                   | ((with_reducible apply EvK.cond_f); (case hc => exact rfl))
                   | ((with_reducible apply EvO.spd_t); (case hp => first | assumption | omega))
                   | ((with_reducible apply EvO.spn_yf); (case hp => first | assumption | omega))
                   | (with_reducible apply EvO.nilT)
                   | (with_reducible apply EvO.nilB)
                   | ((with_reducible apply EvO.gt0); (case hW => exact rfl); (case hx => first
                      | ((with_reducible apply OpR.mv); (conv => lhs; whnf); try exact rfl)
                      | ((with_reducible apply OpR.callF); (case hcal => exact rfl); (case hav => exact rfl); (case hx => exact rfl); (case hh => exact rfl); (case hm => exact rfl); (case hcl => exact rformat_c hv'); (case hr => exact rfl))
                      | ((with_reducible apply OpR.callP [0]); (case hdr => exact rfl); (case hcal => exact rfl); (case hav => exact rfl); (case hx => exact rfl); (case hh => exact rfl); (case hs0 => kernel_rfl); (case hf => kernel_rfl); (case hg => exact rfl); (case hc => kernel_rfl); (case hm => exact rfl); (case hb => exact rfl); (case hcl => exact hRd); (case hk => exact rfl); (case hr => exact rfl))
                      | ((with_reducible apply OpR.callP [0]); (case hdr => exact rfl); (case hcal => exact rfl); (case hav => exact rfl); (case hx => exact rfl); (case hh => exact rfl); (case hs0 => kernel_rfl); (case hf => kernel_rfl); (case hg => exact rfl); (case hc => kernel_rfl); (case hm => exact rfl); (case hb => exact rfl); (case hcl => exact token_c hv'); (case hk => exact rfl); (case hr => exact rfl))
                      | ((with_reducible apply OpR.len); (case ha => exact rfl); (case hy => exact rfl); (case ht => exact rfl); (case hs => exact rfl); (case hn => first | exact List.length_map _ | exact rfl))
                      | ((with_reducible apply OpR.fal); (case hy => exact rfl); (case ho => exact rfl); (case hn => (conv => lhs; whnf); try exact rfl))
                      | exact OpR.r fun _ => rfl))
                   | ((with_reducible apply EvO.u0); (case hx => first
                      | ((with_reducible apply OpR.mv); (conv => lhs; whnf); try exact rfl)
                      | ((with_reducible apply OpR.asg); (conv => lhs; whnf); try exact rfl)
                      | ((with_reducible apply OpR.pk_f); (case hc => exact rfl); (case h => (conv => lhs; whnf); try exact rfl))
                      | ((with_reducible apply OpR.callF); (case hcal => exact rfl); (case hav => exact rfl); (case hx => exact rfl); (case hh => exact rfl); (case hm => exact rfl); (case hcl => exact hV); (case hr => exact rfl))
                      | ((with_reducible apply OpR.callF); (case hcal => exact rfl); (case hav => exact rfl); (case hx => exact rfl); (case hh => exact rfl); (case hm => exact rfl); (case hcl => exact hCt); (case hr => exact rfl))
                      | ((with_reducible apply OpR.callX); (case hcal => exact rfl); (case hav => exact rfl); (case hx => exact rfl); (case hh => exact rfl); (case hm => exact rfl); (case hcl => exact hj); (case hr => exact rfl); (case hd => exact rfl); (case hq => kernel_rfl); (case hn => (first | exact ln0 | exact ln1 | exact ln2 | exact ln3 | exact ln4 | exact ln5 | exact ln6 | exact ln7 | exact ln8 | exact ln9 | exact ln10 | exact ln11 | exact ln12 | exact ln13 | exact ln14)); (case hv => (conv => lhs; whnf); try exact rfl); (case he => (repeat' (first | exact XFr.nil | (with_reducible apply XFr.row) | (with_reducible apply XFr.boxt) | ((apply XFr.box); (case hd => (repeat' (first | exact LEq.nil | ((with_reducible apply LEq.cons); (case h => (conv => lhs; whnf); try exact rfl)) | (apply LEq.cons; (case h => (conv => lhs; whnf); try exact rfl))))))))); (case hf => (repeat' (first | exact LEq.nil | ((with_reducible apply LEq.cons); (case h => (conv => lhs; whnf); try exact rfl)) | (apply LEq.cons; (case h => (conv => lhs; whnf); try exact rfl))))))
                      | ((with_reducible apply OpR.callF); (case hcal => exact rfl); (case hav => exact rfl); (case hx => exact rfl); (case hh => exact rfl); (case hm => exact rfl); (case hcl => exact hI); (case hr => exact rfl))
                      | ((with_reducible apply OpR.callP [0]); (case hdr => exact rfl); (case hcal => exact rfl); (case hav => exact rfl); (case hx => exact rfl); (case hh => exact rfl); (case hs0 => kernel_rfl); (case hf => kernel_rfl); (case hg => exact rfl); (case hc => kernel_rfl); (case hm => exact rfl); (case hb => exact rfl); (case hcl => exact hR); (case hk => exact rfl); (case hr => exact rfl))
                      | ((with_reducible apply OpR.callP [0]); (case hdr => exact rfl); (case hcal => exact rfl); (case hav => exact rfl); (case hx => exact rfl); (case hh => exact rfl); (case hs0 => kernel_rfl); (case hf => kernel_rfl); (case hg => exact rfl); (case hc => kernel_rfl); (case hm => exact rfl); (case hb => exact rfl); (case hcl => exact hck); (case hk => exact rfl); (case hr => exact rfl))
                      | ((with_reducible apply OpR.inc); (case hx => exact rfl); (case hy => exact rfl); (case h => omega))
                      | ((with_reducible apply OpR.ix); (case he => first | (with_reducible exact el0) | (with_reducible exact el1) | (with_reducible exact el2) | (with_reducible exact el3) | (with_reducible exact el4) | (with_reducible exact el5) | (with_reducible exact el6) | (with_reducible exact el7) | exact rfl); (case hx => exact rfl); (case hi => exact rfl); (case hc => assumption); (case hz => exact rfl))
                      | ((with_reducible apply OpR.fal); (case hy => exact rfl); (case ho => exact rfl); (case hn => (conv => lhs; whnf); try exact rfl))
                      | ((with_reducible apply OpR.al); (case hs => exact fun _ => rfl); (case hz => exact rfl); (case hc => (repeat' (first | exact LEq.nil | ((with_reducible apply LEq.cons); (case h => (conv => lhs; whnf); try exact rfl)) | (apply LEq.cons; (case h => (conv => lhs; whnf); try exact rfl))))); (case hn => (first | exact ln0 | exact ln1 | exact ln2 | exact ln3 | exact ln4 | exact ln5 | exact ln6 | exact ln7 | exact ln8 | exact ln9 | exact ln10 | exact ln11 | exact ln12 | exact ln13 | exact ln14)); (case hf => (repeat' (first | exact LEq.nil | ((with_reducible apply LEq.cons); (case h => (conv => lhs; whnf); try exact rfl)) | (apply LEq.cons; (case h => (conv => lhs; whnf); try exact rfl))))))
                      | ((with_reducible apply OpR.stw); (case hs => exact fun _ => rfl); (case ha => exact rfl); (case hy => exact rfl); (case ht => first | (with_reducible exact sz0) | (with_reducible exact sz1) | (with_reducible exact sz2) | (with_reducible exact sz3) | (with_reducible exact sz4) | (with_reducible exact sz5) | (with_reducible exact sz6) | (with_reducible exact sz7) | (with_reducible exact sz8) | (with_reducible exact sz9) | exact rfl); (case ho => kernel_rfl); (case hl => kernel_rfl); (case hb => exact rfl); (case hc => kernel_rfl); (case hf => (repeat' (first | exact LEq.nil | ((with_reducible apply LEq.cons); (case h => (conv => lhs; whnf); try exact rfl)) | (apply LEq.cons; (case h => (conv => lhs; whnf); try exact rfl))))))
                      | exact OpR.r fun _ => rfl))
                   | fail)
                refine ⟨(q + 1, List.zipWith max c cl), rfl, rfl, ⟨by dsimp only; omega, hv', by dsimp only; omega⟩, by dsimp only; omega⟩
            ·
              have hs : readS c cl = (1, c) := by simp [readS, fitsB, hv]; omega
              have hcf : rContB cl c = false := by simp [rContB, hv, hl2]
              rw [hs] at hRd
              rw [hcf] at hR
              have hck := clock_c (c := c) (by omega) hc0
              have hI := rints_c (a := c) (b := c) (by omega) (by omega)
              rw [beq_self_eq_true] at hI
              have hee : bs (fmtS (c)) = bs (fmtS (c)) := rfl
              repeat' (first
                 | (with_reducible apply EvK.seq)
                 | (with_reducible apply EvK.block)
                 | (with_reducible apply EvK.text)
                 | (with_reducible apply EvK.skip)
                 | (with_reducible apply thenK_n)
                 | (with_reducible apply blockK_n)
                 | ((with_reducible apply EvK.cond_t); (case hc => exact rfl))
                 | ((with_reducible apply EvK.cond_f); (case hc => exact rfl))
                 | ((with_reducible apply EvO.spd_t); (case hp => first | assumption | omega))
                 | ((with_reducible apply EvO.spd_f); (case hp => first | assumption | omega))
                 | ((with_reducible apply EvO.spn_yt); (case hp => first | assumption | omega))
                 | ((with_reducible apply EvO.spn_yf); (case hp => first | assumption | omega))
                 | (with_reducible apply EvO.nilT)
                 | (with_reducible apply EvO.nilB)
                 | ((with_reducible apply EvO.gt0); (case hW => exact rfl); (case hx => first
                    | ((with_reducible apply OpR.mv); (conv => lhs; whnf); try exact rfl)
                    | ((with_reducible apply OpR.callF); (case hcal => exact rfl); (case hav => exact rfl); (case hx => exact rfl); (case hh => exact rfl); (case hm => exact rfl); (case hcl => exact rformat_c h2); (case hr => exact rfl))
                    | ((with_reducible apply OpR.callP [0]); (case hdr => exact rfl); (case hcal => exact rfl); (case hav => exact rfl); (case hx => exact rfl); (case hh => exact rfl); (case hs0 => kernel_rfl); (case hf => kernel_rfl); (case hg => exact rfl); (case hc => kernel_rfl); (case hm => exact rfl); (case hb => exact rfl); (case hcl => exact hRd); (case hk => exact rfl); (case hr => exact rfl))
                    | ((with_reducible apply OpR.callP [0]); (case hdr => exact rfl); (case hcal => exact rfl); (case hav => exact rfl); (case hx => exact rfl); (case hh => exact rfl); (case hs0 => kernel_rfl); (case hf => kernel_rfl); (case hg => exact rfl); (case hc => kernel_rfl); (case hm => exact rfl); (case hb => exact rfl); (case hcl => exact token_c h2); (case hk => exact rfl); (case hr => exact rfl))
                    | ((with_reducible apply OpR.len); (case ha => exact rfl); (case hy => exact rfl); (case ht => exact rfl); (case hs => exact rfl); (case hn => first | exact List.length_map _ | exact rfl))
                    | ((with_reducible apply OpR.fal); (case hy => exact rfl); (case ho => exact rfl); (case hn => (conv => lhs; whnf); try exact rfl))
                    | exact OpR.r fun _ => rfl))
                 | ((with_reducible apply EvO.u0); (case hx => first
                    | ((with_reducible apply OpR.mv); (conv => lhs; whnf); try exact rfl)
                    | ((with_reducible apply OpR.asg); (conv => lhs; whnf); try exact rfl)
                    | ((with_reducible apply OpR.pk_f); (case hc => exact rfl); (case h => (conv => lhs; whnf); try exact rfl))
                    | ((with_reducible apply OpR.callF); (case hcal => exact rfl); (case hav => exact rfl); (case hx => exact rfl); (case hh => exact rfl); (case hm => exact rfl); (case hcl => exact hV); (case hr => exact rfl))
                    | ((with_reducible apply OpR.callF); (case hcal => exact rfl); (case hav => exact rfl); (case hx => exact rfl); (case hh => exact rfl); (case hm => exact rfl); (case hcl => exact hI); (case hr => exact rfl))
                    | ((with_reducible apply OpR.callP [0]); (case hdr => exact rfl); (case hcal => exact rfl); (case hav => exact rfl); (case hx => exact rfl); (case hh => exact rfl); (case hs0 => kernel_rfl); (case hf => kernel_rfl); (case hg => exact rfl); (case hc => kernel_rfl); (case hm => exact rfl); (case hb => exact rfl); (case hcl => exact hR); (case hk => exact rfl); (case hr => exact rfl))
                    | ((with_reducible apply OpR.callP [0]); (case hdr => exact rfl); (case hcal => exact rfl); (case hav => exact rfl); (case hx => exact rfl); (case hh => exact rfl); (case hs0 => kernel_rfl); (case hf => kernel_rfl); (case hg => exact rfl); (case hc => kernel_rfl); (case hm => exact rfl); (case hb => exact rfl); (case hcl => exact hck); (case hk => exact rfl); (case hr => exact rfl))
                    | ((with_reducible apply OpR.inc); (case hx => exact rfl); (case hy => exact rfl); (case h => omega))
                    | ((with_reducible apply OpR.ix); (case he => first | (with_reducible exact el0) | (with_reducible exact el1) | (with_reducible exact el2) | (with_reducible exact el3) | (with_reducible exact el4) | (with_reducible exact el5) | (with_reducible exact el6) | (with_reducible exact el7) | exact rfl); (case hx => exact rfl); (case hi => exact rfl); (case hc => assumption); (case hz => exact rfl))
                    | ((with_reducible apply OpR.fal); (case hy => exact rfl); (case ho => exact rfl); (case hn => (conv => lhs; whnf); try exact rfl))
                    | ((with_reducible apply OpR.al); (case hs => exact fun _ => rfl); (case hz => exact rfl); (case hc => (repeat' (first | exact LEq.nil | ((with_reducible apply LEq.cons); (case h => (conv => lhs; whnf); try exact rfl)) | (apply LEq.cons; (case h => (conv => lhs; whnf); try exact rfl))))); (case hn => (first | exact ln0 | exact ln1 | exact ln2 | exact ln3 | exact ln4 | exact ln5 | exact ln6 | exact ln7 | exact ln8 | exact ln9 | exact ln10 | exact ln11 | exact ln12 | exact ln13 | exact ln14)); (case hf => (repeat' (first | exact LEq.nil | ((with_reducible apply LEq.cons); (case h => (conv => lhs; whnf); try exact rfl)) | (apply LEq.cons; (case h => (conv => lhs; whnf); try exact rfl))))))
                    | ((with_reducible apply OpR.stw); (case hs => exact fun _ => rfl); (case ha => exact rfl); (case hy => exact rfl); (case ht => first | (with_reducible exact sz0) | (with_reducible exact sz1) | (with_reducible exact sz2) | (with_reducible exact sz3) | (with_reducible exact sz4) | (with_reducible exact sz5) | (with_reducible exact sz6) | (with_reducible exact sz7) | (with_reducible exact sz8) | (with_reducible exact sz9) | exact rfl); (case ho => kernel_rfl); (case hl => kernel_rfl); (case hb => exact rfl); (case hc => kernel_rfl); (case hf => (repeat' (first | exact LEq.nil | ((with_reducible apply LEq.cons); (case h => (conv => lhs; whnf); try exact rfl)) | (apply LEq.cons; (case h => (conv => lhs; whnf); try exact rfl))))))
                    | exact OpR.r fun _ => rfl))
                 | fail)
              refine ⟨(q + 1, c), rfl, rfl, ⟨by dsimp only; omega, h2, by dsimp only; omega⟩, by dsimp only; omega⟩
        ·
          have hpr : (SAct.mk true cl e).ev.past.length = e.past.length := rfl
          have hF := rformed_c e (by omega)
          have hW := wrote_c (c := c) hc5 e (by omega) h2
          have hCt := rcont_c (a := e.past) (b := c) (by omega) (by omega)
          cases hfm : formB e with
          | false =>
            have hs : wroteS c e = (1, c) := by simp [wroteS, wrB, hfm]
            rw [hs] at hW
            rw [hfm] at hF
            have hck := clock_c (c := c) (by omega) hc0
            have hI := rints_c (a := c) (b := c) (by omega) (by omega)
            rw [beq_self_eq_true] at hI
            have hee : bs (fmtS (c)) = bs (fmtS (c)) := rfl
            repeat' (first
               | (with_reducible apply EvK.seq)
               | (with_reducible apply EvK.block)
               | (with_reducible apply EvK.text)
               | (with_reducible apply EvK.skip)
               | (with_reducible apply thenK_n)
               | (with_reducible apply blockK_n)
               | ((with_reducible apply EvK.cond_t); (case hc => exact rfl))
               | ((with_reducible apply EvK.cond_f); (case hc => exact rfl))
               | ((with_reducible apply EvO.spd_t); (case hp => first | assumption | omega))
               | ((with_reducible apply EvO.spn_f); (case hp => first | assumption | omega))
               | ((with_reducible apply EvO.spn_yf); (case hp => first | assumption | omega))
               | (with_reducible apply EvO.nilT)
               | (with_reducible apply EvO.nilB)
               | ((with_reducible apply EvO.gf); (case hW => exact rfl))
               | ((with_reducible apply EvO.gt0); (case hW => exact rfl); (case hx => first
                  | ((with_reducible apply OpR.mv); (conv => lhs; whnf); try exact rfl)
                  | ((with_reducible apply OpR.callF); (case hcal => exact rfl); (case hav => exact rfl); (case hx => exact rfl); (case hh => exact rfl); (case hm => exact rfl); (case hcl => exact rformat_c h2); (case hr => exact rfl))
                  | ((with_reducible apply OpR.callP [0]); (case hdr => exact rfl); (case hcal => exact rfl); (case hav => exact rfl); (case hx => exact rfl); (case hh => exact rfl); (case hs0 => kernel_rfl); (case hf => kernel_rfl); (case hg => exact rfl); (case hc => kernel_rfl); (case hm => exact rfl); (case hb => exact rfl); (case hcl => exact token_c h2); (case hk => exact rfl); (case hr => exact rfl))
                  | exact OpR.r fun _ => rfl))
               | ((with_reducible apply EvO.u0); (case hx => first
                  | ((with_reducible apply OpR.mv); (conv => lhs; whnf); try exact rfl)
                  | ((with_reducible apply OpR.asg); (conv => lhs; whnf); try exact rfl)
                  | ((with_reducible apply OpR.pk_t); (case hc => exact rfl); (case h => (conv => lhs; whnf); try exact rfl))
                  | ((with_reducible apply OpR.pk_f); (case hc => exact rfl); (case h => (conv => lhs; whnf); try exact rfl))
                  | ((with_reducible apply OpR.callF); (case hcal => exact rfl); (case hav => exact rfl); (case hx => exact rfl); (case hh => exact rfl); (case hm => exact rfl); (case hcl => exact hF); (case hr => exact rfl))
                  | ((with_reducible apply OpR.callF); (case hcal => exact rfl); (case hav => exact rfl); (case hx => exact rfl); (case hh => exact rfl); (case hm => exact rfl); (case hcl => exact hI); (case hr => exact rfl))
                  | ((with_reducible apply OpR.callP [0]); (case hdr => exact rfl); (case hcal => exact rfl); (case hav => exact rfl); (case hx => exact rfl); (case hh => exact rfl); (case hs0 => kernel_rfl); (case hf => kernel_rfl); (case hg => exact rfl); (case hc => kernel_rfl); (case hm => exact rfl); (case hb => exact rfl); (case hcl => exact hW); (case hk => exact rfl); (case hr => exact rfl))
                  | ((with_reducible apply OpR.callP [0]); (case hdr => exact rfl); (case hcal => exact rfl); (case hav => exact rfl); (case hx => exact rfl); (case hh => exact rfl); (case hs0 => kernel_rfl); (case hf => kernel_rfl); (case hg => exact rfl); (case hc => kernel_rfl); (case hm => exact rfl); (case hb => exact rfl); (case hcl => exact hck); (case hk => exact rfl); (case hr => exact rfl))
                  | ((with_reducible apply OpR.inc); (case hx => exact rfl); (case hy => exact rfl); (case h => omega))
                  | ((with_reducible apply OpR.ix); (case he => first | (with_reducible exact el0) | (with_reducible exact el1) | (with_reducible exact el2) | (with_reducible exact el3) | (with_reducible exact el4) | (with_reducible exact el5) | (with_reducible exact el6) | (with_reducible exact el7) | exact rfl); (case hx => exact rfl); (case hi => exact rfl); (case hc => assumption); (case hz => exact rfl))
                  | ((with_reducible apply OpR.fal); (case hy => exact rfl); (case ho => exact rfl); (case hn => (conv => lhs; whnf); try exact rfl))
                  | ((with_reducible apply OpR.al); (case hs => exact fun _ => rfl); (case hz => exact rfl); (case hc => (repeat' (first | exact LEq.nil | ((with_reducible apply LEq.cons); (case h => (conv => lhs; whnf); try exact rfl)) | (apply LEq.cons; (case h => (conv => lhs; whnf); try exact rfl))))); (case hn => (first | exact ln0 | exact ln1 | exact ln2 | exact ln3 | exact ln4 | exact ln5 | exact ln6 | exact ln7 | exact ln8 | exact ln9 | exact ln10 | exact ln11 | exact ln12 | exact ln13 | exact ln14)); (case hf => (repeat' (first | exact LEq.nil | ((with_reducible apply LEq.cons); (case h => (conv => lhs; whnf); try exact rfl)) | (apply LEq.cons; (case h => (conv => lhs; whnf); try exact rfl))))))
                  | ((with_reducible apply OpR.stw); (case hs => exact fun _ => rfl); (case ha => exact rfl); (case hy => exact rfl); (case ht => first | (with_reducible exact sz0) | (with_reducible exact sz1) | (with_reducible exact sz2) | (with_reducible exact sz3) | (with_reducible exact sz4) | (with_reducible exact sz5) | (with_reducible exact sz6) | (with_reducible exact sz7) | (with_reducible exact sz8) | (with_reducible exact sz9) | exact rfl); (case ho => kernel_rfl); (case hl => kernel_rfl); (case hb => exact rfl); (case hc => kernel_rfl); (case hf => (repeat' (first | exact LEq.nil | ((with_reducible apply LEq.cons); (case h => (conv => lhs; whnf); try exact rfl)) | (apply LEq.cons; (case h => (conv => lhs; whnf); try exact rfl))))))
                  | ((with_reducible apply OpR.ldt); (case hy => exact rfl); (case ht => first | (with_reducible exact sz0) | (with_reducible exact sz1) | (with_reducible exact sz2) | (with_reducible exact sz3) | (with_reducible exact sz4) | (with_reducible exact sz5) | (with_reducible exact sz6) | (with_reducible exact sz7) | (with_reducible exact sz8) | (with_reducible exact sz9)); (case hb => exact rfl); (case hl => kernel_rfl); (case hv => exact rfl); (case hx => (repeat' (first | exact Prs.nil | (apply Prs.cons)))))
                  | exact OpR.r fun _ => rfl))
               | fail)
            refine ⟨(q + 1, c), rfl, rfl, ⟨by dsimp only; omega, h2, by dsimp only; omega⟩, by dsimp only; omega⟩
          | true =>
            rw [hfm] at hF
            by_cases hl2 : e.past.length = c.length
            ·
              cases hcf : rContB e.past c with
              | false =>
                have hs : wroteS c e = (9, c) := by simp [wroteS, wrB, hfm, hl2, cont_eq', hcf]
                rw [hs] at hW
                rw [hcf] at hCt
                have hck := clock_c (c := c) (by omega) hc0
                have hI := rints_c (a := c) (b := c) (by omega) (by omega)
                rw [beq_self_eq_true] at hI
                have hee : bs (fmtS (c)) = bs (fmtS (c)) := rfl
                repeat' (first
                   | (with_reducible apply EvK.seq)
                   | (with_reducible apply EvK.block)
                   | (with_reducible apply EvK.text)
                   | (with_reducible apply EvK.skip)
                   | (with_reducible apply thenK_n)
                   | (with_reducible apply blockK_n)
                   | ((with_reducible apply EvK.cond_t); (case hc => exact rfl))
                   | ((with_reducible apply EvK.cond_f); (case hc => exact rfl))
                   | ((with_reducible apply EvO.spd_t); (case hp => first | assumption | omega))
                   | ((with_reducible apply EvO.spn_f); (case hp => first | assumption | omega))
                   | ((with_reducible apply EvO.spn_yf); (case hp => first | assumption | omega))
                   | (with_reducible apply EvO.nilT)
                   | (with_reducible apply EvO.nilB)
                   | ((with_reducible apply EvO.gt0); (case hW => exact rfl); (case hx => first
                      | ((with_reducible apply OpR.mv); (conv => lhs; whnf); try exact rfl)
                      | ((with_reducible apply OpR.callF); (case hcal => exact rfl); (case hav => exact rfl); (case hx => exact rfl); (case hh => exact rfl); (case hm => exact rfl); (case hcl => exact rformat_c h2); (case hr => exact rfl))
                      | ((with_reducible apply OpR.callP [0]); (case hdr => exact rfl); (case hcal => exact rfl); (case hav => exact rfl); (case hx => exact rfl); (case hh => exact rfl); (case hs0 => kernel_rfl); (case hf => kernel_rfl); (case hg => exact rfl); (case hc => kernel_rfl); (case hm => exact rfl); (case hb => exact rfl); (case hcl => exact token_c h2); (case hk => exact rfl); (case hr => exact rfl))
                      | ((with_reducible apply OpR.len); (case ha => exact rfl); (case hy => exact rfl); (case ht => exact rfl); (case hs => exact rfl); (case hn => first | exact List.length_map _ | exact rfl))
                      | ((with_reducible apply OpR.fal); (case hy => exact rfl); (case ho => exact rfl); (case hn => (conv => lhs; whnf); try exact rfl))
                      | exact OpR.r fun _ => rfl))
                   | ((with_reducible apply EvO.u0); (case hx => first
                      | ((with_reducible apply OpR.mv); (conv => lhs; whnf); try exact rfl)
                      | ((with_reducible apply OpR.asg); (conv => lhs; whnf); try exact rfl)
                      | ((with_reducible apply OpR.pk_f); (case hc => exact rfl); (case h => (conv => lhs; whnf); try exact rfl))
                      | ((with_reducible apply OpR.callF); (case hcal => exact rfl); (case hav => exact rfl); (case hx => exact rfl); (case hh => exact rfl); (case hm => exact rfl); (case hcl => exact hF); (case hr => exact rfl))
                      | ((with_reducible apply OpR.callF); (case hcal => exact rfl); (case hav => exact rfl); (case hx => exact rfl); (case hh => exact rfl); (case hm => exact rfl); (case hcl => exact hCt); (case hr => exact rfl))
                      | ((with_reducible apply OpR.callF); (case hcal => exact rfl); (case hav => exact rfl); (case hx => exact rfl); (case hh => exact rfl); (case hm => exact rfl); (case hcl => exact hI); (case hr => exact rfl))
                      | ((with_reducible apply OpR.callP [0]); (case hdr => exact rfl); (case hcal => exact rfl); (case hav => exact rfl); (case hx => exact rfl); (case hh => exact rfl); (case hs0 => kernel_rfl); (case hf => kernel_rfl); (case hg => exact rfl); (case hc => kernel_rfl); (case hm => exact rfl); (case hb => exact rfl); (case hcl => exact hW); (case hk => exact rfl); (case hr => exact rfl))
                      | ((with_reducible apply OpR.callP [0]); (case hdr => exact rfl); (case hcal => exact rfl); (case hav => exact rfl); (case hx => exact rfl); (case hh => exact rfl); (case hs0 => kernel_rfl); (case hf => kernel_rfl); (case hg => exact rfl); (case hc => kernel_rfl); (case hm => exact rfl); (case hb => exact rfl); (case hcl => exact hck); (case hk => exact rfl); (case hr => exact rfl))
                      | ((with_reducible apply OpR.inc); (case hx => exact rfl); (case hy => exact rfl); (case h => omega))
                      | ((with_reducible apply OpR.ix); (case he => first | (with_reducible exact el0) | (with_reducible exact el1) | (with_reducible exact el2) | (with_reducible exact el3) | (with_reducible exact el4) | (with_reducible exact el5) | (with_reducible exact el6) | (with_reducible exact el7) | exact rfl); (case hx => exact rfl); (case hi => exact rfl); (case hc => assumption); (case hz => exact rfl))
                      | ((with_reducible apply OpR.fal); (case hy => exact rfl); (case ho => exact rfl); (case hn => (conv => lhs; whnf); try exact rfl))
                      | ((with_reducible apply OpR.al); (case hs => exact fun _ => rfl); (case hz => exact rfl); (case hc => (repeat' (first | exact LEq.nil | ((with_reducible apply LEq.cons); (case h => (conv => lhs; whnf); try exact rfl)) | (apply LEq.cons; (case h => (conv => lhs; whnf); try exact rfl))))); (case hn => (first | exact ln0 | exact ln1 | exact ln2 | exact ln3 | exact ln4 | exact ln5 | exact ln6 | exact ln7 | exact ln8 | exact ln9 | exact ln10 | exact ln11 | exact ln12 | exact ln13 | exact ln14)); (case hf => (repeat' (first | exact LEq.nil | ((with_reducible apply LEq.cons); (case h => (conv => lhs; whnf); try exact rfl)) | (apply LEq.cons; (case h => (conv => lhs; whnf); try exact rfl))))))
                      | ((with_reducible apply OpR.stw); (case hs => exact fun _ => rfl); (case ha => exact rfl); (case hy => exact rfl); (case ht => first | (with_reducible exact sz0) | (with_reducible exact sz1) | (with_reducible exact sz2) | (with_reducible exact sz3) | (with_reducible exact sz4) | (with_reducible exact sz5) | (with_reducible exact sz6) | (with_reducible exact sz7) | (with_reducible exact sz8) | (with_reducible exact sz9) | exact rfl); (case ho => kernel_rfl); (case hl => kernel_rfl); (case hb => exact rfl); (case hc => kernel_rfl); (case hf => (repeat' (first | exact LEq.nil | ((with_reducible apply LEq.cons); (case h => (conv => lhs; whnf); try exact rfl)) | (apply LEq.cons; (case h => (conv => lhs; whnf); try exact rfl))))))
                      | ((with_reducible apply OpR.ldt); (case hy => exact rfl); (case ht => first | (with_reducible exact sz0) | (with_reducible exact sz1) | (with_reducible exact sz2) | (with_reducible exact sz3) | (with_reducible exact sz4) | (with_reducible exact sz5) | (with_reducible exact sz6) | (with_reducible exact sz7) | (with_reducible exact sz8) | (with_reducible exact sz9)); (case hb => exact rfl); (case hl => kernel_rfl); (case hv => exact rfl); (case hx => (repeat' (first | exact Prs.nil | (apply Prs.cons)))))
                      | exact OpR.r fun _ => rfl))
                   | fail)
                refine ⟨(q + 1, c), rfl, rfl, ⟨by dsimp only; omega, h2, by dsimp only; omega⟩, by dsimp only; omega⟩
              | true =>
                have hs : wroteS c e = (0, withS c e) := by simp [wroteS, wrB, ackS, withS, hfm, hl2, cont_eq', hcf]
                have hj := with_c h2 hfm hl2 hc5
                obtain ⟨hp1, hp2, hp3, hp4, hp5⟩ := formB_ok hfm
                have hv' : validB (withS c e) = true := zip_valid h2 (valid_set hp1 _ (by omega) hp5) (by simp; omega)
                have hl' : (withS c e).length = c.length := by simp [withS]; omega
                have hc0' : withS c e ≠ [] := by intro h; rw [h] at hl'; simp at hl'; omega
                rw [hs] at hW
                rw [hcf] at hCt
                have hck := clock_c (c := withS c e) (by omega) hc0'
                have hI := rints_c (a := withS c e) (b := withS c e) (by omega) (by omega)
                rw [beq_self_eq_true] at hI
                have hee : bs (fmtS (withS c e)) = bs (fmtS (withS c e)) := rfl
                repeat' (first
                   | (with_reducible apply EvK.seq)
                   | (with_reducible apply EvK.block)
                   | (with_reducible apply EvK.text)
                   | (with_reducible apply EvK.skip)
                   | (with_reducible apply thenK_n)
                   | (with_reducible apply blockK_n)
                   | ((with_reducible apply EvK.cond_t); (case hc => exact rfl))
                   | ((with_reducible apply EvK.cond_f); (case hc => exact rfl))
                   | ((with_reducible apply EvO.spd_t); (case hp => first | assumption | omega))
                   | ((with_reducible apply EvO.spn_f); (case hp => first | assumption | omega))
                   | ((with_reducible apply EvO.spn_yf); (case hp => first | assumption | omega))
                   | (with_reducible apply EvO.nilT)
                   | (with_reducible apply EvO.nilB)
                   | ((with_reducible apply EvO.gt0); (case hW => exact rfl); (case hx => first
                      | ((with_reducible apply OpR.mv); (conv => lhs; whnf); try exact rfl)
                      | ((with_reducible apply OpR.callF); (case hcal => exact rfl); (case hav => exact rfl); (case hx => exact rfl); (case hh => exact rfl); (case hm => exact rfl); (case hcl => exact rformat_c hv'); (case hr => exact rfl))
                      | ((with_reducible apply OpR.callP [0]); (case hdr => exact rfl); (case hcal => exact rfl); (case hav => exact rfl); (case hx => exact rfl); (case hh => exact rfl); (case hs0 => kernel_rfl); (case hf => kernel_rfl); (case hg => exact rfl); (case hc => kernel_rfl); (case hm => exact rfl); (case hb => exact rfl); (case hcl => exact token_c hv'); (case hk => exact rfl); (case hr => exact rfl))
                      | ((with_reducible apply OpR.len); (case ha => exact rfl); (case hy => exact rfl); (case ht => exact rfl); (case hs => exact rfl); (case hn => first | exact List.length_map _ | exact rfl))
                      | ((with_reducible apply OpR.fal); (case hy => exact rfl); (case ho => exact rfl); (case hn => (conv => lhs; whnf); try exact rfl))
                      | exact OpR.r fun _ => rfl))
                   | ((with_reducible apply EvO.u0); (case hx => first
                      | ((with_reducible apply OpR.mv); (conv => lhs; whnf); try exact rfl)
                      | ((with_reducible apply OpR.asg); (conv => lhs; whnf); try exact rfl)
                      | ((with_reducible apply OpR.pk_f); (case hc => exact rfl); (case h => (conv => lhs; whnf); try exact rfl))
                      | ((with_reducible apply OpR.callF); (case hcal => exact rfl); (case hav => exact rfl); (case hx => exact rfl); (case hh => exact rfl); (case hm => exact rfl); (case hcl => exact hF); (case hr => exact rfl))
                      | ((with_reducible apply OpR.callF); (case hcal => exact rfl); (case hav => exact rfl); (case hx => exact rfl); (case hh => exact rfl); (case hm => exact rfl); (case hcl => exact hCt); (case hr => exact rfl))
                      | ((with_reducible apply OpR.callX); (case hcal => exact rfl); (case hav => exact rfl); (case hx => exact rfl); (case hh => exact rfl); (case hm => exact rfl); (case hcl => exact hj); (case hr => exact rfl); (case hd => exact rfl); (case hq => kernel_rfl); (case hn => (first | exact ln0 | exact ln1 | exact ln2 | exact ln3 | exact ln4 | exact ln5 | exact ln6 | exact ln7 | exact ln8 | exact ln9 | exact ln10 | exact ln11 | exact ln12 | exact ln13 | exact ln14)); (case hv => (conv => lhs; whnf); try exact rfl); (case he => (repeat' (first | exact XFr.nil | (with_reducible apply XFr.row) | (with_reducible apply XFr.boxt) | ((apply XFr.box); (case hd => (repeat' (first | exact LEq.nil | ((with_reducible apply LEq.cons); (case h => (conv => lhs; whnf); try exact rfl)) | (apply LEq.cons; (case h => (conv => lhs; whnf); try exact rfl))))))))); (case hf => (repeat' (first | exact LEq.nil | ((with_reducible apply LEq.cons); (case h => (conv => lhs; whnf); try exact rfl)) | (apply LEq.cons; (case h => (conv => lhs; whnf); try exact rfl))))))
                      | ((with_reducible apply OpR.callF); (case hcal => exact rfl); (case hav => exact rfl); (case hx => exact rfl); (case hh => exact rfl); (case hm => exact rfl); (case hcl => exact hI); (case hr => exact rfl))
                      | ((with_reducible apply OpR.callP [0]); (case hdr => exact rfl); (case hcal => exact rfl); (case hav => exact rfl); (case hx => exact rfl); (case hh => exact rfl); (case hs0 => kernel_rfl); (case hf => kernel_rfl); (case hg => exact rfl); (case hc => kernel_rfl); (case hm => exact rfl); (case hb => exact rfl); (case hcl => exact hW); (case hk => exact rfl); (case hr => exact rfl))
                      | ((with_reducible apply OpR.callP [0]); (case hdr => exact rfl); (case hcal => exact rfl); (case hav => exact rfl); (case hx => exact rfl); (case hh => exact rfl); (case hs0 => kernel_rfl); (case hf => kernel_rfl); (case hg => exact rfl); (case hc => kernel_rfl); (case hm => exact rfl); (case hb => exact rfl); (case hcl => exact hck); (case hk => exact rfl); (case hr => exact rfl))
                      | ((with_reducible apply OpR.inc); (case hx => exact rfl); (case hy => exact rfl); (case h => omega))
                      | ((with_reducible apply OpR.ix); (case he => first | (with_reducible exact el0) | (with_reducible exact el1) | (with_reducible exact el2) | (with_reducible exact el3) | (with_reducible exact el4) | (with_reducible exact el5) | (with_reducible exact el6) | (with_reducible exact el7) | exact rfl); (case hx => exact rfl); (case hi => exact rfl); (case hc => assumption); (case hz => exact rfl))
                      | ((with_reducible apply OpR.fal); (case hy => exact rfl); (case ho => exact rfl); (case hn => (conv => lhs; whnf); try exact rfl))
                      | ((with_reducible apply OpR.al); (case hs => exact fun _ => rfl); (case hz => exact rfl); (case hc => (repeat' (first | exact LEq.nil | ((with_reducible apply LEq.cons); (case h => (conv => lhs; whnf); try exact rfl)) | (apply LEq.cons; (case h => (conv => lhs; whnf); try exact rfl))))); (case hn => (first | exact ln0 | exact ln1 | exact ln2 | exact ln3 | exact ln4 | exact ln5 | exact ln6 | exact ln7 | exact ln8 | exact ln9 | exact ln10 | exact ln11 | exact ln12 | exact ln13 | exact ln14)); (case hf => (repeat' (first | exact LEq.nil | ((with_reducible apply LEq.cons); (case h => (conv => lhs; whnf); try exact rfl)) | (apply LEq.cons; (case h => (conv => lhs; whnf); try exact rfl))))))
                      | ((with_reducible apply OpR.stw); (case hs => exact fun _ => rfl); (case ha => exact rfl); (case hy => exact rfl); (case ht => first | (with_reducible exact sz0) | (with_reducible exact sz1) | (with_reducible exact sz2) | (with_reducible exact sz3) | (with_reducible exact sz4) | (with_reducible exact sz5) | (with_reducible exact sz6) | (with_reducible exact sz7) | (with_reducible exact sz8) | (with_reducible exact sz9) | exact rfl); (case ho => kernel_rfl); (case hl => kernel_rfl); (case hb => exact rfl); (case hc => kernel_rfl); (case hf => (repeat' (first | exact LEq.nil | ((with_reducible apply LEq.cons); (case h => (conv => lhs; whnf); try exact rfl)) | (apply LEq.cons; (case h => (conv => lhs; whnf); try exact rfl))))))
                      | ((with_reducible apply OpR.ldt); (case hy => exact rfl); (case ht => first | (with_reducible exact sz0) | (with_reducible exact sz1) | (with_reducible exact sz2) | (with_reducible exact sz3) | (with_reducible exact sz4) | (with_reducible exact sz5) | (with_reducible exact sz6) | (with_reducible exact sz7) | (with_reducible exact sz8) | (with_reducible exact sz9)); (case hb => exact rfl); (case hl => kernel_rfl); (case hv => exact rfl); (case hx => (repeat' (first | exact Prs.nil | (apply Prs.cons)))))
                      | exact OpR.r fun _ => rfl))
                   | fail)
                refine ⟨(q + 1, withS c e), rfl, rfl, ⟨by dsimp only; omega, hv', by dsimp only; omega⟩, by dsimp only; omega⟩
            ·
              have hs : wroteS c e = (1, c) := by simp [wroteS, wrB, hfm]; omega
              rw [hs] at hW
              have hck := clock_c (c := c) (by omega) hc0
              have hI := rints_c (a := c) (b := c) (by omega) (by omega)
              rw [beq_self_eq_true] at hI
              have hee : bs (fmtS (c)) = bs (fmtS (c)) := rfl
              repeat' (first
                 | (with_reducible apply EvK.seq)
                 | (with_reducible apply EvK.block)
                 | (with_reducible apply EvK.text)
                 | (with_reducible apply EvK.skip)
                 | (with_reducible apply thenK_n)
                 | (with_reducible apply blockK_n)
                 | ((with_reducible apply EvK.cond_t); (case hc => exact rfl))
                 | ((with_reducible apply EvK.cond_f); (case hc => exact rfl))
                 | ((with_reducible apply EvO.spd_t); (case hp => first | assumption | omega))
                 | ((with_reducible apply EvO.spn_f); (case hp => first | assumption | omega))
                 | ((with_reducible apply EvO.spn_yt); (case hp => first | assumption | omega))
                 | ((with_reducible apply EvO.spn_yf); (case hp => first | assumption | omega))
                 | (with_reducible apply EvO.nilT)
                 | (with_reducible apply EvO.nilB)
                 | ((with_reducible apply EvO.gt0); (case hW => exact rfl); (case hx => first
                    | ((with_reducible apply OpR.mv); (conv => lhs; whnf); try exact rfl)
                    | ((with_reducible apply OpR.callF); (case hcal => exact rfl); (case hav => exact rfl); (case hx => exact rfl); (case hh => exact rfl); (case hm => exact rfl); (case hcl => exact rformat_c h2); (case hr => exact rfl))
                    | ((with_reducible apply OpR.callP [0]); (case hdr => exact rfl); (case hcal => exact rfl); (case hav => exact rfl); (case hx => exact rfl); (case hh => exact rfl); (case hs0 => kernel_rfl); (case hf => kernel_rfl); (case hg => exact rfl); (case hc => kernel_rfl); (case hm => exact rfl); (case hb => exact rfl); (case hcl => exact token_c h2); (case hk => exact rfl); (case hr => exact rfl))
                    | ((with_reducible apply OpR.len); (case ha => exact rfl); (case hy => exact rfl); (case ht => exact rfl); (case hs => exact rfl); (case hn => first | exact List.length_map _ | exact rfl))
                    | ((with_reducible apply OpR.fal); (case hy => exact rfl); (case ho => exact rfl); (case hn => (conv => lhs; whnf); try exact rfl))
                    | exact OpR.r fun _ => rfl))
                 | ((with_reducible apply EvO.u0); (case hx => first
                    | ((with_reducible apply OpR.mv); (conv => lhs; whnf); try exact rfl)
                    | ((with_reducible apply OpR.asg); (conv => lhs; whnf); try exact rfl)
                    | ((with_reducible apply OpR.pk_f); (case hc => exact rfl); (case h => (conv => lhs; whnf); try exact rfl))
                    | ((with_reducible apply OpR.callF); (case hcal => exact rfl); (case hav => exact rfl); (case hx => exact rfl); (case hh => exact rfl); (case hm => exact rfl); (case hcl => exact hF); (case hr => exact rfl))
                    | ((with_reducible apply OpR.callF); (case hcal => exact rfl); (case hav => exact rfl); (case hx => exact rfl); (case hh => exact rfl); (case hm => exact rfl); (case hcl => exact hI); (case hr => exact rfl))
                    | ((with_reducible apply OpR.callP [0]); (case hdr => exact rfl); (case hcal => exact rfl); (case hav => exact rfl); (case hx => exact rfl); (case hh => exact rfl); (case hs0 => kernel_rfl); (case hf => kernel_rfl); (case hg => exact rfl); (case hc => kernel_rfl); (case hm => exact rfl); (case hb => exact rfl); (case hcl => exact hW); (case hk => exact rfl); (case hr => exact rfl))
                    | ((with_reducible apply OpR.callP [0]); (case hdr => exact rfl); (case hcal => exact rfl); (case hav => exact rfl); (case hx => exact rfl); (case hh => exact rfl); (case hs0 => kernel_rfl); (case hf => kernel_rfl); (case hg => exact rfl); (case hc => kernel_rfl); (case hm => exact rfl); (case hb => exact rfl); (case hcl => exact hck); (case hk => exact rfl); (case hr => exact rfl))
                    | ((with_reducible apply OpR.inc); (case hx => exact rfl); (case hy => exact rfl); (case h => omega))
                    | ((with_reducible apply OpR.ix); (case he => first | (with_reducible exact el0) | (with_reducible exact el1) | (with_reducible exact el2) | (with_reducible exact el3) | (with_reducible exact el4) | (with_reducible exact el5) | (with_reducible exact el6) | (with_reducible exact el7) | exact rfl); (case hx => exact rfl); (case hi => exact rfl); (case hc => assumption); (case hz => exact rfl))
                    | ((with_reducible apply OpR.fal); (case hy => exact rfl); (case ho => exact rfl); (case hn => (conv => lhs; whnf); try exact rfl))
                    | ((with_reducible apply OpR.al); (case hs => exact fun _ => rfl); (case hz => exact rfl); (case hc => (repeat' (first | exact LEq.nil | ((with_reducible apply LEq.cons); (case h => (conv => lhs; whnf); try exact rfl)) | (apply LEq.cons; (case h => (conv => lhs; whnf); try exact rfl))))); (case hn => (first | exact ln0 | exact ln1 | exact ln2 | exact ln3 | exact ln4 | exact ln5 | exact ln6 | exact ln7 | exact ln8 | exact ln9 | exact ln10 | exact ln11 | exact ln12 | exact ln13 | exact ln14)); (case hf => (repeat' (first | exact LEq.nil | ((with_reducible apply LEq.cons); (case h => (conv => lhs; whnf); try exact rfl)) | (apply LEq.cons; (case h => (conv => lhs; whnf); try exact rfl))))))
                    | ((with_reducible apply OpR.stw); (case hs => exact fun _ => rfl); (case ha => exact rfl); (case hy => exact rfl); (case ht => first | (with_reducible exact sz0) | (with_reducible exact sz1) | (with_reducible exact sz2) | (with_reducible exact sz3) | (with_reducible exact sz4) | (with_reducible exact sz5) | (with_reducible exact sz6) | (with_reducible exact sz7) | (with_reducible exact sz8) | (with_reducible exact sz9) | exact rfl); (case ho => kernel_rfl); (case hl => kernel_rfl); (case hb => exact rfl); (case hc => kernel_rfl); (case hf => (repeat' (first | exact LEq.nil | ((with_reducible apply LEq.cons); (case h => (conv => lhs; whnf); try exact rfl)) | (apply LEq.cons; (case h => (conv => lhs; whnf); try exact rfl))))))
                    | ((with_reducible apply OpR.ldt); (case hy => exact rfl); (case ht => first | (with_reducible exact sz0) | (with_reducible exact sz1) | (with_reducible exact sz2) | (with_reducible exact sz3) | (with_reducible exact sz4) | (with_reducible exact sz5) | (with_reducible exact sz6) | (with_reducible exact sz7) | (with_reducible exact sz8) | (with_reducible exact sz9)); (case hb => exact rfl); (case hl => kernel_rfl); (case hv => exact rfl); (case hx => (repeat' (first | exact Prs.nil | (apply Prs.cons)))))
                    | exact OpR.r fun _ => rfl))
                 | fail)
              refine ⟨(q + 1, c), rfl, rfl, ⟨by dsimp only; omega, h2, by dsimp only; omega⟩, by dsimp only; omega⟩
      ·
        repeat' (first
           | (with_reducible apply EvK.seq)
           | (with_reducible apply EvK.text)
           | (with_reducible apply EvK.exit)
           | (with_reducible apply EvK.ret)
           | (with_reducible apply thenK_n)
           | (with_reducible apply thenK_e)
           | (with_reducible apply blockK_h)
           | ((with_reducible apply EvK.cond_f); (case hc => exact rfl))
           | ((with_reducible apply EvO.spd_f); (case hp => first | assumption | omega))
           | (with_reducible apply EvO.nilT)
           | ((with_reducible apply EvO.u0); (case hx => first
              | ((with_reducible apply OpR.asg); (conv => lhs; whnf); try exact rfl)
              | exact OpR.r fun _ => rfl))
           | fail)
        exact ⟨.inr rfl, rfl⟩
theorem law_ops_all (xs : List AV) (h : Args Tryd.prog 8 Tryd.f4.params.toList xs) : Cl cfg 4 (xs.map .t) [] (.t (.bool true)) [] := by
  rw [Tryd.params4] at h
  obtain ⟨x0, _, rfl, h0, x1, _, rfl, h1, rfl⟩ := h
  obtain ⟨n, rfl⟩ := arg_int h0
  obtain ⟨l, rfl, hl, hc⟩ := arg_acts h1
  exact law_ops n l hl hc
end Go.Proofs.YtjdhnoffoknlnaaDoor
