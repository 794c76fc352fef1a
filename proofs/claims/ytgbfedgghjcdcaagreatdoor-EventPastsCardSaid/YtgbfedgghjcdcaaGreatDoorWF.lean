/- Law 52: formed events, the program's. No condition. -/
import Derived.Test.YtgbfedgghjcdcaaGreatDoorWE
namespace Go.Proofs.YtgbfedgghjcdcaaGreatDoor
set_option linter.unusedSimpArgs false
set_option linter.unusedVariables false
set_option linter.unusedSectionVars false
open Go.RowKit
set_option maxRecDepth 100000
set_option maxHeartbeats 2000000

abbrev evZ : Ev := ⟨0, 0, 0, [], 0, 0, 0, 0, 0, 0, 0, 0, 0⟩
theorem evEq0 (e : Ev) : evEq ⟨0, 0, 0, [], 0, 0, e.gk, e.gi, e.ge, e.ga, e.to, 0, 0⟩ evZ = giveZ e := by
  rw [Bool.eq_iff_iff]; simp [evEq, giveZ, and_assoc]
theorem evEq1 (e : Ev) : evEq ⟨0, 0, 0, [], 0, e.a, 0, 0, 0, 0, 0, e.pl, e.se⟩ evZ = (decide (e.a = 0) && (decide (e.pl = 0) && decide (e.se = 0))) := by
  rw [Bool.eq_iff_iff]; simp [evEq]
theorem evEq2 (e : Ev) : evEq ⟨0, 0, 0, [], 0, e.a, e.gk, e.gi, e.ge, e.ga, e.to, 0, 0⟩ evZ = (decide (e.a = 0) && giveZ e) := by
  rw [Bool.eq_iff_iff]; simp [evEq, giveZ, and_assoc]
def findK (k : Int) : Option (Option Nat) := findA (.int .i64) (.int .i64 k) [.int .i64 0, .int .i64 1, .int .i64 2] 0
theorem findK_0 {k : Int} (h : k = 0) : findK k = some (some 0) := by subst h; rfl
theorem findK_1 {k : Int} (h : k = 1) : findK k = some (some 1) := by subst h; rfl
theorem findK_2 {k : Int} (h : k = 2) : findK k = some (some 2) := by subst h; rfl
theorem findK_n {k : Int} (h0 : k ≠ 0) (h1 : k ≠ 1) (h2 : k ≠ 2) : findK k = some none := by simp [findK, findA, eqLeaf, h0, h1, h2]
theorem formed_c (e : Ev) (hl : e.past.length ≤ 140737488351232) : Cl cfg 12 [.t (evA e)] [] (.t (.bool (formB e))) [] := by
  refine Cl.of_body rfl Tryz.func12 rfl rfl rfl ?_
  have hvc := valid_c hl
  cases hv : validB e.past with
  | false =>
    rw [hv] at hvc
    repeat' (first
       | (with_reducible apply EvK.seq)
       | ((with_reducible apply EvK.text); (try case hm => exact rfl))
       | ((with_reducible apply EvK.drawn); (case hm => exact rfl))
       | (with_reducible apply EvK.ret)
       | (with_reducible apply thenK_r)
       | ((with_reducible apply EvK.cond_t); (case hc => exact rfl))
       | (with_reducible apply EvO.nilT)
       | ((with_reducible apply EvO.gf); (case hW => exact rfl))
       | ((with_reducible apply EvO.u0); (case hx => first
          | ((with_reducible apply OpR.mv); (conv => lhs; whnf); try exact rfl)
          | ((with_reducible apply OpR.asg); (conv => lhs; whnf); try exact rfl)
          | ((with_reducible apply OpR.pk_t); (case hc => exact rfl); (case h => (conv => lhs; whnf); try exact rfl))
          | ((with_reducible apply OpR.callF); (case hcal => exact rfl); (case hav => exact rfl); (case hx => exact rfl); (case hh => exact rfl); (case hm => exact rfl); (case hcl => exact hvc); (case hr => exact rfl))
          | ((with_reducible apply OpR.fal); (case hy => exact rfl); (case ho => exact rfl); (case hn => (conv => lhs; whnf); try exact rfl))
          | ((with_reducible apply OpR.bxt); (case hs => exact fun _ => rfl); (case hy => exact rfl); (case ho => kernel_rfl); (case hn => (first | exact ln0 | exact ln1 | exact ln2 | exact ln3 | exact ln4 | exact ln5 | exact ln6 | exact ln7 | exact ln8 | exact ln9 | exact ln10 | exact ln11 | exact ln12 | exact ln13 | exact ln14)); (case hf => (repeat' (first | exact LEq.nil | ((with_reducible apply LEq.cons); (case h => (conv => lhs; whnf); try exact rfl)) | (apply LEq.cons; (case h => (conv => lhs; whnf); try exact rfl))))))
          | exact OpR.r fun _ => rfl))
       | fail)
    all_goals (refine fin_b (.inr rfl) rfl ?_; simp [formB, headOk, hv])
  | true =>
    rw [hv] at hvc
    cases hb : betB e.r 0 ((e.past.length : Int) - 1) with
    | false =>
      have hbc := betB_c e.r 0 ((e.past.length : Int) - 1)
      rw [hb] at hbc
      repeat' (first
         | (with_reducible apply EvK.seq)
         | ((with_reducible apply EvK.text); (try case hm => exact rfl))
         | ((with_reducible apply EvK.drawn); (case hm => exact rfl))
         | (with_reducible apply EvK.ret)
         | (with_reducible apply thenK_r)
         | ((with_reducible apply EvK.cond_t); (case hc => exact rfl))
         | (with_reducible apply EvO.nilT)
         | ((with_reducible apply EvO.gf); (case hW => exact rfl))
         | ((with_reducible apply EvO.gt0); (case hW => exact rfl); (case hx => first
            | ((with_reducible apply OpR.callF); (case hcal => exact rfl); (case hav => exact rfl); (case hx => exact rfl); (case hh => exact rfl); (case hm => exact rfl); (case hcl => exact hbc); (case hr => exact rfl))
            | ((with_reducible apply OpR.sub); (case hx => exact rfl); (case hy => exact rfl); (case h => omega))
            | ((with_reducible apply OpR.len); (case ha => exact rfl); (case hy => exact rfl); (case ht => exact rfl); (case hs => exact rfl); (case hn => first | exact List.length_map _ | exact rfl))
            | ((with_reducible apply OpR.fal); (case hy => exact rfl); (case ho => exact rfl); (case hn => (conv => lhs; whnf); try exact rfl))
            | exact OpR.r fun _ => rfl))
         | ((with_reducible apply EvO.u0); (case hx => first
            | ((with_reducible apply OpR.mv); (conv => lhs; whnf); try exact rfl)
            | ((with_reducible apply OpR.asg); (conv => lhs; whnf); try exact rfl)
            | ((with_reducible apply OpR.pk_t); (case hc => exact rfl); (case h => (conv => lhs; whnf); try exact rfl))
            | ((with_reducible apply OpR.pk_f); (case hc => exact rfl); (case h => (conv => lhs; whnf); try exact rfl))
            | ((with_reducible apply OpR.callF); (case hcal => exact rfl); (case hav => exact rfl); (case hx => exact rfl); (case hh => exact rfl); (case hm => exact rfl); (case hcl => exact hvc); (case hr => exact rfl))
            | ((with_reducible apply OpR.fal); (case hy => exact rfl); (case ho => exact rfl); (case hn => (conv => lhs; whnf); try exact rfl))
            | ((with_reducible apply OpR.bxt); (case hs => exact fun _ => rfl); (case hy => exact rfl); (case ho => kernel_rfl); (case hn => (first | exact ln0 | exact ln1 | exact ln2 | exact ln3 | exact ln4 | exact ln5 | exact ln6 | exact ln7 | exact ln8 | exact ln9 | exact ln10 | exact ln11 | exact ln12 | exact ln13 | exact ln14)); (case hf => (repeat' (first | exact LEq.nil | ((with_reducible apply LEq.cons); (case h => (conv => lhs; whnf); try exact rfl)) | (apply LEq.cons; (case h => (conv => lhs; whnf); try exact rfl))))))
            | exact OpR.r fun _ => rfl))
         | fail)
      all_goals (refine fin_b (.inr rfl) rfl ?_; simp [formB, headOk, hv, hb])
    | true =>
      have hbc := betB_c e.r 0 ((e.past.length : Int) - 1)
      rw [hb] at hbc
      have hr : 0 ≤ e.r ∧ e.r < e.past.length := by simp [betB] at hb; omega
      obtain ⟨h0, h1⟩ := hr
      obtain ⟨x, hx⟩ := get_of_lt (xs := e.past) (k := e.r.toNat) (by omega)
      have hc := intsE_get hx
      have hd := getD_get hx
      have hx2 := ok1_at hv hx
      repeat' (first
         | (with_reducible apply EvK.seq)
         | ((with_reducible apply EvK.text); (try case hm => exact rfl))
         | ((with_reducible apply EvK.drawn); (case hm => exact rfl))
         | (with_reducible apply EvK.skip)
         | (with_reducible apply EvK.ret)
         | (with_reducible apply thenK_n)
         | (with_reducible apply thenK_r)
         | ((with_reducible apply EvK.cond_t); (case hc => exact rfl))
         | ((with_reducible apply EvK.cond_f); (case hc => exact rfl))
         | ((with_reducible apply EvO.spd_y) <;> intro hq)
         | ((with_reducible apply EvO.spn_y) <;> intro hq)
         | ((with_reducible apply EvO.spb_y (b := betB _ _ _)) <;> intro hq)
         | (with_reducible apply EvO.nilT)
         | ((with_reducible apply EvO.gf); (case hW => exact rfl))
         | ((with_reducible apply EvO.gt0); (case hW => exact rfl); (case hx => first
            | ((with_reducible apply OpR.callF); (case hcal => exact rfl); (case hav => exact rfl); (case hx => exact rfl); (case hh => exact rfl); (case hm => exact rfl); (case hcl => exact hbc); (case hr => exact rfl))
            | ((with_reducible apply OpR.callF); (case hcal => exact rfl); (case hav => exact rfl); (case hx => exact rfl); (case hh => exact rfl); (case hm => exact rfl); (case hcl => exact betB_c _ _ _); (case hr => exact rfl))
            | ((with_reducible apply OpR.add); (case hx => exact rfl); (case hy => exact rfl); (case h => omega))
            | ((with_reducible apply OpR.sub); (case hx => exact rfl); (case hy => exact rfl); (case h => omega))
            | ((with_reducible apply OpR.len); (case ha => exact rfl); (case hy => exact rfl); (case ht => exact rfl); (case hs => exact rfl); (case hn => first | exact List.length_map _ | exact rfl))
            | ((with_reducible apply OpR.ixm); (case he => first | (with_reducible exact el0) | (with_reducible exact el1) | (with_reducible exact el2) | (with_reducible exact el3) | (with_reducible exact el4) | (with_reducible exact el5) | (with_reducible exact el6) | (with_reducible exact el7) | exact rfl); (case hx => exact rfl); (case hi => exact rfl); (case h0 => omega); (case hc => assumption); (case hz => exact rfl))
            | ((with_reducible apply OpR.fal); (case hy => exact rfl); (case ho => exact rfl); (case hn => (conv => lhs; whnf); try exact rfl))
            | exact OpR.r fun _ => rfl))
         | ((with_reducible apply EvO.u0); (case hx => first
            | ((with_reducible apply OpR.mv); (conv => lhs; whnf); try exact rfl)
            | ((with_reducible apply OpR.asg); (conv => lhs; whnf); try exact rfl)
            | ((with_reducible apply OpR.pk_t); (case hc => exact rfl); (case h => (conv => lhs; whnf); try exact rfl))
            | ((with_reducible apply OpR.pk_f); (case hc => exact rfl); (case h => (conv => lhs; whnf); try exact rfl))
            | ((with_reducible apply OpR.callF); (case hcal => exact rfl); (case hav => exact rfl); (case hx => exact rfl); (case hh => exact rfl); (case hm => exact rfl); (case hcl => exact hvc); (case hr => exact rfl))
            | ((with_reducible apply OpR.call); (case hcal => exact rfl); (case hav => exact rfl); (case hx => exact rfl); (case hh => exact rfl); (case hm => exact rfl); (case hcl => exact forms_c e); (case hr => exact rfl))
            | ((with_reducible apply OpR.fal); (case hy => exact rfl); (case ho => exact rfl); (case hn => (conv => lhs; whnf); try exact rfl))
            | ((with_reducible apply OpR.bxt); (case hs => exact fun _ => rfl); (case hy => exact rfl); (case ho => kernel_rfl); (case hn => (first | exact ln0 | exact ln1 | exact ln2 | exact ln3 | exact ln4 | exact ln5 | exact ln6 | exact ln7 | exact ln8 | exact ln9 | exact ln10 | exact ln11 | exact ln12 | exact ln13 | exact ln14)); (case hf => (repeat' (first | exact LEq.nil | ((with_reducible apply LEq.cons); (case h => (conv => lhs; whnf); try exact rfl)) | (apply LEq.cons; (case h => (conv => lhs; whnf); try exact rfl))))))
            | ((with_reducible apply OpR.ldw); (case hy => exact rfl); (case ht => first | (with_reducible exact sz0) | (with_reducible exact sz1) | (with_reducible exact sz2) | (with_reducible exact sz3) | (with_reducible exact sz4) | (with_reducible exact sz5) | (with_reducible exact sz6) | (with_reducible exact sz7) | (with_reducible exact sz8) | (with_reducible exact sz9)); (case hb => exact rfl); (case hl => kernel_rfl))
            | exact OpR.r fun _ => rfl))
         | fail)
      all_goals first
        | (refine fin_b (.inr rfl) rfl ?_; rw [formB, headOk, hd]; simp [*]; first | done | omega)
        | skip
      have hH : headOk e = true := by rw [headOk, hd]; simp [*]; omega
      by_cases k0 : e.k = 0
      ·
        repeat' (first
           | (with_reducible apply EvK.seq)
           | ((with_reducible apply EvK.text); (try case hm => exact rfl))
           | (with_reducible apply EvK.skip)
           | (with_reducible apply EvK.ret)
           | (with_reducible apply thenK_n)
           | ((with_reducible apply EvK.cond_f); (case hc => exact rfl))
           | ((with_reducible apply EvO.spb (b := actF _)) <;> intro hq)
           | ((with_reducible apply EvO.spb_y (b := evEq _ _)) <;> intro hq)
           | (with_reducible apply EvO.nilT)
           | ((with_reducible apply EvO.gf); (case hW => exact rfl))
           | ((with_reducible apply EvO.gt0); (case hW => exact rfl); (case hx => first
              | ((with_reducible apply OpR.bld (parts := #[]) (cs := [.t (.int .i64 0), .t (.int .i64 0), .t (.int .i64 0), .nil, .t (.int .i64 0), .t (.int .i64 0), .t (.int .i64 0), .t (.int .i64 0), .t (.int .i64 0), .t (.int .i64 0), .t (.int .i64 0), .t (.int .i64 0), .t (.int .i64 0)]) (v := .agg [.t (.int .i64 0), .t (.int .i64 0), .t (.int .i64 0), .nil, .t (.int .i64 0), .t (.int .i64 0), .t (.int .i64 0), .t (.int .i64 0), .t (.int .i64 0), .t (.int .i64 0), .t (.int .i64 0), .t (.int .i64 0), .t (.int .i64 0)])); (case ho => kernel_rfl); (case h => kernel_rfl); (case hv => kernel_rfl))
              | ((with_reducible apply OpR.callF); (case hcal => exact rfl); (case hav => exact rfl); (case hx => exact rfl); (case hh => exact rfl); (case hm => exact rfl); (case hcl => exact equal_c ⟨0, 0, 0, [], 0, 0, e.gk, e.gi, e.ge, e.ga, e.to, 0, 0⟩ evZ (by simp) (by simp [evZ])); (case hr => exact rfl))
              | ((with_reducible apply OpR.lda); (case hy => exact rfl); (case ht => first | (with_reducible exact sz0) | (with_reducible exact sz1) | (with_reducible exact sz2) | (with_reducible exact sz3) | (with_reducible exact sz4) | (with_reducible exact sz5) | (with_reducible exact sz6) | (with_reducible exact sz7) | (with_reducible exact sz8) | (with_reducible exact sz9)); (case hb => exact rfl); (case hl => kernel_rfl); (case hv => (repeat' (first | exact LEq.nil | ((with_reducible apply LEq.cons); (case h => (conv => lhs; whnf); try exact rfl)) | (apply LEq.cons; (case h => (conv => lhs; whnf); try exact rfl))))); (case hx => (conv => lhs; whnf); try exact rfl))))
           | ((with_reducible apply EvO.u0); (case hx => first
              | ((with_reducible apply OpR.mv); (conv => lhs; whnf); try exact rfl)
              | ((with_reducible apply OpR.asg); (conv => lhs; whnf); try exact rfl)
              | ((with_reducible apply OpR.pk_t); (case hc => exact rfl); (case h => (conv => lhs; whnf); try exact rfl))
              | ((with_reducible apply OpR.pk_f); (case hc => exact rfl); (case h => (conv => lhs; whnf); try exact rfl))
              | ((with_reducible apply OpR.lki); (case hm => exact rfl); (case hk => exact rfl); (case ho => exact rfl); (case hf => exact findK_0 k0); (case hz => exact rfl))
              | ((with_reducible apply OpR.bld (cs := [.t (.int .i64 0), .t (.int .i64 0), .t (.int .i64 0), .nil, .t (.int .i64 0), .t (.int .i64 e.a), .t (.int .i64 e.gk), .t (.int .i64 e.gi), .t (.int .i64 e.ge), .t (.int .i64 e.ga), .t (.int .i64 e.to), .t (.int .i64 e.pl), .t (.int .i64 e.se)]) (v := .agg [.t (.int .i64 0), .t (.int .i64 0), .t (.int .i64 0), .nil, .t (.int .i64 0), .t (.int .i64 e.a), .t (.int .i64 e.gk), .t (.int .i64 e.gi), .t (.int .i64 e.ge), .t (.int .i64 e.ga), .t (.int .i64 e.to), .t (.int .i64 e.pl), .t (.int .i64 e.se)])); (case ho => kernel_rfl); (case h => kernel_rfl); (case hv => kernel_rfl))
              | ((with_reducible apply OpR.callP [1]); (case hdr => exact rfl); (case hcal => exact rfl); (case hav => exact rfl); (case hx => exact rfl); (case hh => exact rfl); (case hs0 => kernel_rfl); (case hf => kernel_rfl); (case hg => exact rfl); (case hc => kernel_rfl); (case hm => exact rfl); (case hb => exact rfl); (case hcl => exact form1_c e _ _ _ _ _ _ _ _); (case hk => exact rfl); (case hr => exact rfl))
              | ((with_reducible apply OpR.fal); (case hy => exact rfl); (case ho => exact rfl); (case hn => (conv => lhs; whnf); try exact rfl))
              | ((with_reducible apply OpR.al); (case hs => exact fun _ => rfl); (case hz => exact rfl); (case hc => (repeat' (first | exact LEq.nil | ((with_reducible apply LEq.cons); (case h => (conv => lhs; whnf); try exact rfl)) | (apply LEq.cons; (case h => (conv => lhs; whnf); try exact rfl))))); (case hn => (first | exact ln0 | exact ln1 | exact ln2 | exact ln3 | exact ln4 | exact ln5 | exact ln6 | exact ln7 | exact ln8 | exact ln9 | exact ln10 | exact ln11 | exact ln12 | exact ln13 | exact ln14)); (case hf => (repeat' (first | exact LEq.nil | ((with_reducible apply LEq.cons); (case h => (conv => lhs; whnf); try exact rfl)) | (apply LEq.cons; (case h => (conv => lhs; whnf); try exact rfl))))))
              | ((with_reducible apply OpR.sto); (case hs => exact fun _ => rfl); (case ha => exact rfl); (case hy => exact rfl); (case ht => first | (with_reducible exact sz0) | (with_reducible exact sz1) | (with_reducible exact sz2) | (with_reducible exact sz3) | (with_reducible exact sz4) | (with_reducible exact sz5) | (with_reducible exact sz6) | (with_reducible exact sz7) | (with_reducible exact sz8) | (with_reducible exact sz9) | exact rfl); (case hv => exact rfl); (case ho => kernel_rfl); (case hb => exact rfl); (case hc => kernel_rfl); (case hd => (repeat' (first | exact LEq.nil | ((with_reducible apply LEq.cons); (case h => (conv => lhs; whnf); try exact rfl)) | (apply LEq.cons; (case h => (conv => lhs; whnf); try exact rfl))))); (case hf => (repeat' (first | exact LEq.nil | ((with_reducible apply LEq.cons); (case h => (conv => lhs; whnf); try exact rfl)) | (apply LEq.cons; (case h => (conv => lhs; whnf); try exact rfl))))))
              | ((with_reducible apply OpR.ldt); (case hy => exact rfl); (case ht => first | (with_reducible exact sz0) | (with_reducible exact sz1) | (with_reducible exact sz2) | (with_reducible exact sz3) | (with_reducible exact sz4) | (with_reducible exact sz5) | (with_reducible exact sz6) | (with_reducible exact sz7) | (with_reducible exact sz8) | (with_reducible exact sz9)); (case hb => exact rfl); (case hl => kernel_rfl); (case hv => exact rfl); (case hx => (repeat' (first | exact Prs.nil | (apply Prs.cons)))))
              | exact OpR.r fun _ => rfl))
           | fail)
        all_goals (refine fin_b (.inr rfl) rfl ?_; clear hvc hbc; (try simp only [evEq0, evEq1, evEq2] at *); rw [formB, hH]; simp only [*]; simp)
      by_cases k1 : e.k = 1
      ·
        repeat' (first
           | (with_reducible apply EvK.seq)
           | ((with_reducible apply EvK.text); (try case hm => exact rfl))
           | (with_reducible apply EvK.skip)
           | (with_reducible apply EvK.ret)
           | (with_reducible apply thenK_n)
           | ((with_reducible apply EvK.cond_f); (case hc => exact rfl))
           | ((with_reducible apply EvO.spb (b := giveF _)) <;> intro hq)
           | ((with_reducible apply EvO.spb_y (b := evEq _ _)) <;> intro hq)
           | (with_reducible apply EvO.nilT)
           | ((with_reducible apply EvO.gf); (case hW => exact rfl))
           | ((with_reducible apply EvO.gt0); (case hW => exact rfl); (case hx => first
              | ((with_reducible apply OpR.bld (parts := #[]) (cs := [.t (.int .i64 0), .t (.int .i64 0), .t (.int .i64 0), .nil, .t (.int .i64 0), .t (.int .i64 0), .t (.int .i64 0), .t (.int .i64 0), .t (.int .i64 0), .t (.int .i64 0), .t (.int .i64 0), .t (.int .i64 0), .t (.int .i64 0)]) (v := .agg [.t (.int .i64 0), .t (.int .i64 0), .t (.int .i64 0), .nil, .t (.int .i64 0), .t (.int .i64 0), .t (.int .i64 0), .t (.int .i64 0), .t (.int .i64 0), .t (.int .i64 0), .t (.int .i64 0), .t (.int .i64 0), .t (.int .i64 0)])); (case ho => kernel_rfl); (case h => kernel_rfl); (case hv => kernel_rfl))
              | ((with_reducible apply OpR.callF); (case hcal => exact rfl); (case hav => exact rfl); (case hx => exact rfl); (case hh => exact rfl); (case hm => exact rfl); (case hcl => exact equal_c ⟨0, 0, 0, [], 0, e.a, 0, 0, 0, 0, 0, e.pl, e.se⟩ evZ (by simp) (by simp [evZ])); (case hr => exact rfl))
              | ((with_reducible apply OpR.lda); (case hy => exact rfl); (case ht => first | (with_reducible exact sz0) | (with_reducible exact sz1) | (with_reducible exact sz2) | (with_reducible exact sz3) | (with_reducible exact sz4) | (with_reducible exact sz5) | (with_reducible exact sz6) | (with_reducible exact sz7) | (with_reducible exact sz8) | (with_reducible exact sz9)); (case hb => exact rfl); (case hl => kernel_rfl); (case hv => (repeat' (first | exact LEq.nil | ((with_reducible apply LEq.cons); (case h => (conv => lhs; whnf); try exact rfl)) | (apply LEq.cons; (case h => (conv => lhs; whnf); try exact rfl))))); (case hx => (conv => lhs; whnf); try exact rfl))))
           | ((with_reducible apply EvO.u0); (case hx => first
              | ((with_reducible apply OpR.mv); (conv => lhs; whnf); try exact rfl)
              | ((with_reducible apply OpR.asg); (conv => lhs; whnf); try exact rfl)
              | ((with_reducible apply OpR.pk_t); (case hc => exact rfl); (case h => (conv => lhs; whnf); try exact rfl))
              | ((with_reducible apply OpR.pk_f); (case hc => exact rfl); (case h => (conv => lhs; whnf); try exact rfl))
              | ((with_reducible apply OpR.lki); (case hm => exact rfl); (case hk => exact rfl); (case ho => exact rfl); (case hf => exact findK_1 k1); (case hz => exact rfl))
              | ((with_reducible apply OpR.bld (cs := [.t (.int .i64 0), .t (.int .i64 0), .t (.int .i64 0), .nil, .t (.int .i64 0), .t (.int .i64 e.a), .t (.int .i64 e.gk), .t (.int .i64 e.gi), .t (.int .i64 e.ge), .t (.int .i64 e.ga), .t (.int .i64 e.to), .t (.int .i64 e.pl), .t (.int .i64 e.se)]) (v := .agg [.t (.int .i64 0), .t (.int .i64 0), .t (.int .i64 0), .nil, .t (.int .i64 0), .t (.int .i64 e.a), .t (.int .i64 e.gk), .t (.int .i64 e.gi), .t (.int .i64 e.ge), .t (.int .i64 e.ga), .t (.int .i64 e.to), .t (.int .i64 e.pl), .t (.int .i64 e.se)])); (case ho => kernel_rfl); (case h => kernel_rfl); (case hv => kernel_rfl))
              | ((with_reducible apply OpR.callP [1]); (case hdr => exact rfl); (case hcal => exact rfl); (case hav => exact rfl); (case hx => exact rfl); (case hh => exact rfl); (case hs0 => kernel_rfl); (case hf => kernel_rfl); (case hg => exact rfl); (case hc => kernel_rfl); (case hm => exact rfl); (case hb => exact rfl); (case hcl => exact form2_c e _ _ _ _ _ _ _ _ hl); (case hk => exact rfl); (case hr => exact rfl))
              | ((with_reducible apply OpR.fal); (case hy => exact rfl); (case ho => exact rfl); (case hn => (conv => lhs; whnf); try exact rfl))
              | ((with_reducible apply OpR.al); (case hs => exact fun _ => rfl); (case hz => exact rfl); (case hc => (repeat' (first | exact LEq.nil | ((with_reducible apply LEq.cons); (case h => (conv => lhs; whnf); try exact rfl)) | (apply LEq.cons; (case h => (conv => lhs; whnf); try exact rfl))))); (case hn => (first | exact ln0 | exact ln1 | exact ln2 | exact ln3 | exact ln4 | exact ln5 | exact ln6 | exact ln7 | exact ln8 | exact ln9 | exact ln10 | exact ln11 | exact ln12 | exact ln13 | exact ln14)); (case hf => (repeat' (first | exact LEq.nil | ((with_reducible apply LEq.cons); (case h => (conv => lhs; whnf); try exact rfl)) | (apply LEq.cons; (case h => (conv => lhs; whnf); try exact rfl))))))
              | ((with_reducible apply OpR.sto); (case hs => exact fun _ => rfl); (case ha => exact rfl); (case hy => exact rfl); (case ht => first | (with_reducible exact sz0) | (with_reducible exact sz1) | (with_reducible exact sz2) | (with_reducible exact sz3) | (with_reducible exact sz4) | (with_reducible exact sz5) | (with_reducible exact sz6) | (with_reducible exact sz7) | (with_reducible exact sz8) | (with_reducible exact sz9) | exact rfl); (case hv => exact rfl); (case ho => kernel_rfl); (case hb => exact rfl); (case hc => kernel_rfl); (case hd => (repeat' (first | exact LEq.nil | ((with_reducible apply LEq.cons); (case h => (conv => lhs; whnf); try exact rfl)) | (apply LEq.cons; (case h => (conv => lhs; whnf); try exact rfl))))); (case hf => (repeat' (first | exact LEq.nil | ((with_reducible apply LEq.cons); (case h => (conv => lhs; whnf); try exact rfl)) | (apply LEq.cons; (case h => (conv => lhs; whnf); try exact rfl))))))
              | ((with_reducible apply OpR.ldt); (case hy => exact rfl); (case ht => first | (with_reducible exact sz0) | (with_reducible exact sz1) | (with_reducible exact sz2) | (with_reducible exact sz3) | (with_reducible exact sz4) | (with_reducible exact sz5) | (with_reducible exact sz6) | (with_reducible exact sz7) | (with_reducible exact sz8) | (with_reducible exact sz9)); (case hb => exact rfl); (case hl => kernel_rfl); (case hv => exact rfl); (case hx => (repeat' (first | exact Prs.nil | (apply Prs.cons)))))
              | exact OpR.r fun _ => rfl))
           | fail)
        all_goals (refine fin_b (.inr rfl) rfl ?_; clear hvc hbc; (try simp only [evEq0, evEq1, evEq2] at *); rw [formB, hH]; simp only [*]; simp)
      by_cases k2 : e.k = 2
      ·
        repeat' (first
           | (with_reducible apply EvK.seq)
           | ((with_reducible apply EvK.text); (try case hm => exact rfl))
           | (with_reducible apply EvK.skip)
           | (with_reducible apply EvK.ret)
           | (with_reducible apply thenK_n)
           | ((with_reducible apply EvK.cond_f); (case hc => exact rfl))
           | ((with_reducible apply EvO.spb (b := noteF _)) <;> intro hq)
           | ((with_reducible apply EvO.spb_y (b := evEq _ _)) <;> intro hq)
           | (with_reducible apply EvO.nilT)
           | ((with_reducible apply EvO.gf); (case hW => exact rfl))
           | ((with_reducible apply EvO.gt0); (case hW => exact rfl); (case hx => first
              | ((with_reducible apply OpR.bld (parts := #[]) (cs := [.t (.int .i64 0), .t (.int .i64 0), .t (.int .i64 0), .nil, .t (.int .i64 0), .t (.int .i64 0), .t (.int .i64 0), .t (.int .i64 0), .t (.int .i64 0), .t (.int .i64 0), .t (.int .i64 0), .t (.int .i64 0), .t (.int .i64 0)]) (v := .agg [.t (.int .i64 0), .t (.int .i64 0), .t (.int .i64 0), .nil, .t (.int .i64 0), .t (.int .i64 0), .t (.int .i64 0), .t (.int .i64 0), .t (.int .i64 0), .t (.int .i64 0), .t (.int .i64 0), .t (.int .i64 0), .t (.int .i64 0)])); (case ho => kernel_rfl); (case h => kernel_rfl); (case hv => kernel_rfl))
              | ((with_reducible apply OpR.callF); (case hcal => exact rfl); (case hav => exact rfl); (case hx => exact rfl); (case hh => exact rfl); (case hm => exact rfl); (case hcl => exact equal_c ⟨0, 0, 0, [], 0, e.a, e.gk, e.gi, e.ge, e.ga, e.to, 0, 0⟩ evZ (by simp) (by simp [evZ])); (case hr => exact rfl))
              | ((with_reducible apply OpR.lda); (case hy => exact rfl); (case ht => first | (with_reducible exact sz0) | (with_reducible exact sz1) | (with_reducible exact sz2) | (with_reducible exact sz3) | (with_reducible exact sz4) | (with_reducible exact sz5) | (with_reducible exact sz6) | (with_reducible exact sz7) | (with_reducible exact sz8) | (with_reducible exact sz9)); (case hb => exact rfl); (case hl => kernel_rfl); (case hv => (repeat' (first | exact LEq.nil | ((with_reducible apply LEq.cons); (case h => (conv => lhs; whnf); try exact rfl)) | (apply LEq.cons; (case h => (conv => lhs; whnf); try exact rfl))))); (case hx => (conv => lhs; whnf); try exact rfl))))
           | ((with_reducible apply EvO.u0); (case hx => first
              | ((with_reducible apply OpR.mv); (conv => lhs; whnf); try exact rfl)
              | ((with_reducible apply OpR.asg); (conv => lhs; whnf); try exact rfl)
              | ((with_reducible apply OpR.pk_t); (case hc => exact rfl); (case h => (conv => lhs; whnf); try exact rfl))
              | ((with_reducible apply OpR.pk_f); (case hc => exact rfl); (case h => (conv => lhs; whnf); try exact rfl))
              | ((with_reducible apply OpR.lki); (case hm => exact rfl); (case hk => exact rfl); (case ho => exact rfl); (case hf => exact findK_2 k2); (case hz => exact rfl))
              | ((with_reducible apply OpR.bld (cs := [.t (.int .i64 0), .t (.int .i64 0), .t (.int .i64 0), .nil, .t (.int .i64 0), .t (.int .i64 e.a), .t (.int .i64 e.gk), .t (.int .i64 e.gi), .t (.int .i64 e.ge), .t (.int .i64 e.ga), .t (.int .i64 e.to), .t (.int .i64 e.pl), .t (.int .i64 e.se)]) (v := .agg [.t (.int .i64 0), .t (.int .i64 0), .t (.int .i64 0), .nil, .t (.int .i64 0), .t (.int .i64 e.a), .t (.int .i64 e.gk), .t (.int .i64 e.gi), .t (.int .i64 e.ge), .t (.int .i64 e.ga), .t (.int .i64 e.to), .t (.int .i64 e.pl), .t (.int .i64 e.se)])); (case ho => kernel_rfl); (case h => kernel_rfl); (case hv => kernel_rfl))
              | ((with_reducible apply OpR.callP [1]); (case hdr => exact rfl); (case hcal => exact rfl); (case hav => exact rfl); (case hx => exact rfl); (case hh => exact rfl); (case hs0 => kernel_rfl); (case hf => kernel_rfl); (case hg => exact rfl); (case hc => kernel_rfl); (case hm => exact rfl); (case hb => exact rfl); (case hcl => exact form3_c e _ _ _ _ _ _ _ _); (case hk => exact rfl); (case hr => exact rfl))
              | ((with_reducible apply OpR.fal); (case hy => exact rfl); (case ho => exact rfl); (case hn => (conv => lhs; whnf); try exact rfl))
              | ((with_reducible apply OpR.al); (case hs => exact fun _ => rfl); (case hz => exact rfl); (case hc => (repeat' (first | exact LEq.nil | ((with_reducible apply LEq.cons); (case h => (conv => lhs; whnf); try exact rfl)) | (apply LEq.cons; (case h => (conv => lhs; whnf); try exact rfl))))); (case hn => (first | exact ln0 | exact ln1 | exact ln2 | exact ln3 | exact ln4 | exact ln5 | exact ln6 | exact ln7 | exact ln8 | exact ln9 | exact ln10 | exact ln11 | exact ln12 | exact ln13 | exact ln14)); (case hf => (repeat' (first | exact LEq.nil | ((with_reducible apply LEq.cons); (case h => (conv => lhs; whnf); try exact rfl)) | (apply LEq.cons; (case h => (conv => lhs; whnf); try exact rfl))))))
              | ((with_reducible apply OpR.sto); (case hs => exact fun _ => rfl); (case ha => exact rfl); (case hy => exact rfl); (case ht => first | (with_reducible exact sz0) | (with_reducible exact sz1) | (with_reducible exact sz2) | (with_reducible exact sz3) | (with_reducible exact sz4) | (with_reducible exact sz5) | (with_reducible exact sz6) | (with_reducible exact sz7) | (with_reducible exact sz8) | (with_reducible exact sz9) | exact rfl); (case hv => exact rfl); (case ho => kernel_rfl); (case hb => exact rfl); (case hc => kernel_rfl); (case hd => (repeat' (first | exact LEq.nil | ((with_reducible apply LEq.cons); (case h => (conv => lhs; whnf); try exact rfl)) | (apply LEq.cons; (case h => (conv => lhs; whnf); try exact rfl))))); (case hf => (repeat' (first | exact LEq.nil | ((with_reducible apply LEq.cons); (case h => (conv => lhs; whnf); try exact rfl)) | (apply LEq.cons; (case h => (conv => lhs; whnf); try exact rfl))))))
              | ((with_reducible apply OpR.ldt); (case hy => exact rfl); (case ht => first | (with_reducible exact sz0) | (with_reducible exact sz1) | (with_reducible exact sz2) | (with_reducible exact sz3) | (with_reducible exact sz4) | (with_reducible exact sz5) | (with_reducible exact sz6) | (with_reducible exact sz7) | (with_reducible exact sz8) | (with_reducible exact sz9)); (case hb => exact rfl); (case hl => kernel_rfl); (case hv => exact rfl); (case hx => (repeat' (first | exact Prs.nil | (apply Prs.cons)))))
              | exact OpR.r fun _ => rfl))
           | fail)
        all_goals (refine fin_b (.inr rfl) rfl ?_; clear hvc hbc; (try simp only [evEq0, evEq1, evEq2] at *); rw [formB, hH]; simp only [*]; simp)
      repeat' (first
         | (with_reducible apply EvK.seq)
         | ((with_reducible apply EvK.text); (try case hm => exact rfl))
         | (with_reducible apply EvK.ret)
         | (with_reducible apply thenK_r)
         | ((with_reducible apply EvK.cond_t); (case hc => exact rfl))
         | (with_reducible apply EvO.nilT)
         | ((with_reducible apply EvO.u0); (case hx => first
            | ((with_reducible apply OpR.mv); (conv => lhs; whnf); try exact rfl)
            | ((with_reducible apply OpR.asg); (conv => lhs; whnf); try exact rfl)
            | ((with_reducible apply OpR.lk); (case hm => exact rfl); (case hk => exact rfl); (case ho => exact rfl); (case hf => exact findK_n k0 k1 k2); (case hz => exact rfl))
            | exact OpR.r fun _ => rfl))
         | fail)
      all_goals (refine fin_b (.inr rfl) rfl ?_; clear hvc hbc; simp_all [formB])
end Go.Proofs.YtgbfedgghjcdcaaGreatDoor
