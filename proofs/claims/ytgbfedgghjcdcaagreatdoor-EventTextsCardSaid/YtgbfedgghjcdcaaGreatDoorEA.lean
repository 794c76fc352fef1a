/- Law 32: the text of an event, written and read by the code. No condition. -/
import Derived.Test.YtgbfedgghjcdcaaGreatDoorYE
import Derived.Test.YtgbfedgghjcdcaaGreatDoorWTI
import Derived.Test.YtgbfedgghjcdcaaGreatDoorWF
namespace Go.Proofs.YtgbfedgghjcdcaaGreatDoor
set_option linter.unusedSimpArgs false
set_option linter.unusedVariables false
set_option linter.unusedSectionVars false
open Go.RowKit
set_option maxRecDepth 100000
set_option maxHeartbeats 16000000

def wsE (ws : List (List UInt8)) : List (List AV) := ws.map fun w => [.str (bs w)]
theorem strsOf_wsE (ws : List (List UInt8)) : strsOf (wsE ws) = some (ws.map bs) := by
  induction ws with
  | nil => rfl
  | cons x xs ih => show (match strsOf (wsE xs) with | some l => some (bs x :: l) | none => none) = _; rw [ih]; rfl
theorem lens_le1000 : ∀ (l : List (List UInt8)), (∀ x ∈ l, x.length ≤ 1000) → Lib.lens l ≤ 1000 * l.length
  | [], _ => by simp [Lib.lens]
  | x :: l, h => by
    have h1 := lens_le1000 l (fun y hy => h y (by simp [hy]))
    have h2 := h x (by simp)
    simp only [Lib.lens, List.map_cons, List.sum_cons, List.length_cons] at h1 ⊢
    omega
theorem joinW_len : ∀ (ws : List (List UInt8)), (∀ x ∈ ws, x.length ≤ 1000) → ws.length ≤ 1000 → (Lib.join ws [32]).length ≤ 2000000
  | [], _, _ => by simp [Lib.join_nil]
  | w :: ws, h, hl => by
    have := lens_le1000 _ h
    rw [Lib.join_length]
    simp only [List.length_cons, List.length_nil] at this hl ⊢
    omega
theorem joinW_c {ws : List (List UInt8)} (h : ∀ x ∈ ws, x.length ≤ 1000) (hl : ws.length ≤ 1000) : Cl cfg 70 [.t (.arr (wsE ws)), .t (.str (bs [32]))] [] (.t (.str (bs (Lib.join ws [32])))) [] := by
  refine Cl.ext (xs := [.arr (wsE ws), .str (bs [32])]) rfl rfl ?_
  refine ext_of ?_
  have e : (ws.map bs).map (·.data.toList) = ws := by rw [List.map_map]; exact (List.map_congr_left fun w _ => bs_data w).trans (List.map_id ws)
  have hn := joinW_len ws h hl
  have hd : decide ((Lib.join ((ws.map bs).map (·.data.toList)) (bs [32]).data.toList).length ≤ 140737488355328) = true := by
    rw [e]
    exact decide_eq_true (by show (Lib.join ws [32]).length ≤ _; omega)
  have hb : Nat.beq 70 68 = false := rfl
  have hb' : Nat.beq 70 70 = true := rfl
  unfold extT
  simp only [hb, hb', strsOf_wsE, hd]
  rw [e]
  rfl
theorem itoa_len1000 {n : Int} (h0 : 0 ≤ n) (h1 : n ≤ 9999999999) : (Lib.itoa n).length ≤ 1000 := by
  have := itoa_len10 h0 h1
  omega
theorem fmtS_len {c : List Int} (hv : validB c = true) : (fmtS c).length ≤ 1000 := by
  have hok : c.all ok1 = true := by simp only [validB, Bool.and_eq_true] at hv; exact hv.1.1
  have h5 : c.length ≤ 5 := by simp [validB] at hv; omega
  have := numsT_len hok
  simp [fmtS, hv]; omega
theorem eformat_c (e : Ev) (hl : e.past.length ≤ 1000) : Cl cfg 22 [.t (evA e)] [] (.t (.str (bs (fmtE e)))) [] := by
  have hF := formed_c e (by omega)
  refine Cl.of_body rfl Tryz.func22 rfl rfl rfl ?_
  cases hf : formB e with
  | false =>
    have h0 : fmtE e = [] := by simp [fmtE, hf]
    rw [h0]
    rw [hf] at hF
    repeat' (first
       | (with_reducible apply EvK.seq)
       | ((with_reducible apply EvK.text); (try case hm => exact rfl))
       | (with_reducible apply EvK.ret)
       | (with_reducible apply thenK_r)
       | ((with_reducible apply EvK.cond_t); (case hc => exact rfl))
       | (with_reducible apply EvO.nilT)
       | ((with_reducible apply EvO.u0); (case hx => first
          | ((with_reducible apply OpR.asg); (conv => lhs; whnf); try exact rfl)
          | ((with_reducible apply OpR.callF); (case hcal => exact rfl); (case hav => exact rfl); (case hx => exact rfl); (case hh => exact rfl); (case hm => exact rfl); (case hcl => exact hF); (case hr => exact rfl))
          | ((with_reducible apply OpR.bxt); (case hs => exact fun _ => rfl); (case hy => exact rfl); (case ho => kernel_rfl); (case hn => (first | exact ln0 | exact ln1 | exact ln2 | exact ln3 | exact ln4 | exact ln5 | exact ln6 | exact ln7 | exact ln8 | exact ln9 | exact ln10 | exact ln11 | exact ln12 | exact ln13 | exact ln14)); (case hf => (repeat' (first | exact LEq.nil | ((with_reducible apply LEq.cons); (case h => (conv => lhs; whnf); try exact rfl)) | (apply LEq.cons; (case h => (conv => lhs; whnf); try exact rfl))))))
          | ((with_reducible apply OpR.ldw); (case hy => exact rfl); (case ht => first | (with_reducible exact sz0) | (with_reducible exact sz1) | (with_reducible exact sz2) | (with_reducible exact sz3) | (with_reducible exact sz4) | (with_reducible exact sz5) | (with_reducible exact sz6) | (with_reducible exact sz7) | (with_reducible exact sz8) | (with_reducible exact sz9)); (case hb => exact rfl); (case hl => kernel_rfl))
          | exact OpR.r fun _ => rfl))
       | fail)
    exact ⟨.inr rfl, rfl⟩
  | true =>
    rw [hf] at hF
    obtain ⟨hv, r0, r1, n0, n1, t0, t1, hk, k0, k2, k1⟩ := rng_of hf
    have hcf := format_c hv
    have hcl := fmtS_len hv
    by_cases h0 : e.k = 0
    ·
      obtain ⟨⟨a0, a1, p0, p1, s0, s1⟩, _⟩ := k0 h0
      have ht : tailW e = [wAction, Lib.itoa e.a, wPlace, Lib.itoa e.pl, wSerial, Lib.itoa e.se] := by unfold tailW; rw [if_pos h0]
      have hj := joinW_c (ws := [Lib.itoa e.r, Lib.itoa e.n, Lib.itoa e.t, fmtS e.past, wAction, Lib.itoa e.a, wPlace, Lib.itoa e.pl, wSerial, Lib.itoa e.se]) (by
        intro x hx
        simp only [List.mem_cons, List.not_mem_nil, or_false] at hx
        rcases hx with rfl | rfl | rfl | rfl | rfl | rfl | rfl | rfl | rfl | rfl <;> first | exact hcl | exact itoa_len1000 (by omega) (by omega) | decide) (by simp)
      have hfe : fmtE e = Lib.join [Lib.itoa e.r, Lib.itoa e.n, Lib.itoa e.t, fmtS e.past, wAction, Lib.itoa e.a, wPlace, Lib.itoa e.pl, wSerial, Lib.itoa e.se] [32] := by unfold fmtE; rw [if_pos hf, ht]; rfl
      rw [hfe]
      repeat' (first
         | (with_reducible apply EvK.seq)
         | (with_reducible apply EvK.block)
         | ((with_reducible apply EvK.text); (try case hm => exact rfl))
         | ((with_reducible apply EvK.drawn); (case hm => exact rfl))
         | (with_reducible apply EvK.skip)
         | (with_reducible apply EvK.ret)
         | (with_reducible apply thenK_n)
         | ((with_reducible apply EvK.cond_t); (case hc => exact rfl))
         | ((with_reducible apply EvK.cond_f); (case hc => exact rfl))
         | ((with_reducible apply EvO.spd_t); (case hp => first | assumption | omega))
         | (with_reducible apply EvO.nilT)
         | (with_reducible apply EvO.nilB)
         | ((with_reducible apply EvO.u0); (case hx => first
            | ((with_reducible apply OpR.mv); (conv => lhs; whnf); try exact rfl)
            | ((with_reducible apply OpR.asg); (conv => lhs; whnf); try exact rfl)
            | ((with_reducible apply OpR.callF); (case hcal => exact rfl); (case hav => exact rfl); (case hx => exact rfl); (case hh => exact rfl); (case hm => exact rfl); (case hcl => exact hF); (case hr => exact rfl))
            | ((with_reducible apply OpR.callF); (case hcal => exact rfl); (case hav => exact rfl); (case hx => exact rfl); (case hh => exact rfl); (case hm => exact rfl); (case hcl => exact hcf); (case hr => exact rfl))
            | ((with_reducible apply OpR.callF); (case hcal => exact rfl); (case hav => exact rfl); (case hx => exact rfl); (case hh => exact rfl); (case hm => exact rfl); (case hcl => exact itoaA_c (by omega) (by omega)); (case hr => exact rfl))
            | ((with_reducible apply OpR.callF); (case hcal => exact rfl); (case hav => exact rfl); (case hx => exact rfl); (case hh => exact rfl); (case hm => exact rfl); (case hcl => exact hj); (case hr => exact rfl))
            | ((with_reducible apply OpR.fal); (case hy => exact rfl); (case ho => exact rfl); (case hn => (conv => lhs; whnf); try exact rfl))
            | ((with_reducible apply OpR.bxt); (case hs => exact fun _ => rfl); (case hy => exact rfl); (case ho => kernel_rfl); (case hn => (first | exact ln0 | exact ln1 | exact ln2 | exact ln3 | exact ln4 | exact ln5 | exact ln6 | exact ln7 | exact ln8 | exact ln9 | exact ln10 | exact ln11 | exact ln12 | exact ln13 | exact ln14)); (case hf => (repeat' (first | exact LEq.nil | ((with_reducible apply LEq.cons); (case h => (conv => lhs; whnf); try exact rfl)) | (apply LEq.cons; (case h => (conv => lhs; whnf); try exact rfl))))))
            | ((with_reducible apply OpR.ldw); (case hy => exact rfl); (case ht => first | (with_reducible exact sz0) | (with_reducible exact sz1) | (with_reducible exact sz2) | (with_reducible exact sz3) | (with_reducible exact sz4) | (with_reducible exact sz5) | (with_reducible exact sz6) | (with_reducible exact sz7) | (with_reducible exact sz8) | (with_reducible exact sz9)); (case hb => exact rfl); (case hl => kernel_rfl))
            | exact OpR.r fun _ => rfl))
         | fail)
      exact ⟨.inr rfl, rfl⟩
    ·
      by_cases h2 : e.k = 2
      ·
        obtain ⟨⟨p0, p1, s0, s1⟩, _⟩ := k2 h2
        have ht : tailW e = [wNote, wPlace, Lib.itoa e.pl, wSerial, Lib.itoa e.se] := by unfold tailW; rw [if_neg h0, if_pos h2]
        have hj := joinW_c (ws := [Lib.itoa e.r, Lib.itoa e.n, Lib.itoa e.t, fmtS e.past, wNote, wPlace, Lib.itoa e.pl, wSerial, Lib.itoa e.se]) (by
          intro x hx
          simp only [List.mem_cons, List.not_mem_nil, or_false] at hx
          rcases hx with rfl | rfl | rfl | rfl | rfl | rfl | rfl | rfl | rfl <;> first | exact hcl | exact itoa_len1000 (by omega) (by omega) | decide) (by simp)
        have hfe : fmtE e = Lib.join [Lib.itoa e.r, Lib.itoa e.n, Lib.itoa e.t, fmtS e.past, wNote, wPlace, Lib.itoa e.pl, wSerial, Lib.itoa e.se] [32] := by unfold fmtE; rw [if_pos hf, ht]; rfl
        rw [hfe]
        repeat' (first
           | (with_reducible apply EvK.seq)
           | (with_reducible apply EvK.block)
           | ((with_reducible apply EvK.text); (try case hm => exact rfl))
           | ((with_reducible apply EvK.drawn); (case hm => exact rfl))
           | (with_reducible apply EvK.skip)
           | (with_reducible apply EvK.ret)
           | (with_reducible apply thenK_n)
           | ((with_reducible apply EvK.cond_t); (case hc => exact rfl))
           | ((with_reducible apply EvK.cond_f); (case hc => exact rfl))
           | ((with_reducible apply EvO.spd_t); (case hp => first | assumption | omega))
           | ((with_reducible apply EvO.spd_f); (case hp => first | assumption | omega))
           | (with_reducible apply EvO.nilT)
           | (with_reducible apply EvO.nilB)
           | ((with_reducible apply EvO.u0); (case hx => first
              | ((with_reducible apply OpR.mv); (conv => lhs; whnf); try exact rfl)
              | ((with_reducible apply OpR.asg); (conv => lhs; whnf); try exact rfl)
              | ((with_reducible apply OpR.callF); (case hcal => exact rfl); (case hav => exact rfl); (case hx => exact rfl); (case hh => exact rfl); (case hm => exact rfl); (case hcl => exact hF); (case hr => exact rfl))
              | ((with_reducible apply OpR.callF); (case hcal => exact rfl); (case hav => exact rfl); (case hx => exact rfl); (case hh => exact rfl); (case hm => exact rfl); (case hcl => exact hcf); (case hr => exact rfl))
              | ((with_reducible apply OpR.callF); (case hcal => exact rfl); (case hav => exact rfl); (case hx => exact rfl); (case hh => exact rfl); (case hm => exact rfl); (case hcl => exact itoaA_c (by omega) (by omega)); (case hr => exact rfl))
              | ((with_reducible apply OpR.callF); (case hcal => exact rfl); (case hav => exact rfl); (case hx => exact rfl); (case hh => exact rfl); (case hm => exact rfl); (case hcl => exact hj); (case hr => exact rfl))
              | ((with_reducible apply OpR.fal); (case hy => exact rfl); (case ho => exact rfl); (case hn => (conv => lhs; whnf); try exact rfl))
              | ((with_reducible apply OpR.bxt); (case hs => exact fun _ => rfl); (case hy => exact rfl); (case ho => kernel_rfl); (case hn => (first | exact ln0 | exact ln1 | exact ln2 | exact ln3 | exact ln4 | exact ln5 | exact ln6 | exact ln7 | exact ln8 | exact ln9 | exact ln10 | exact ln11 | exact ln12 | exact ln13 | exact ln14)); (case hf => (repeat' (first | exact LEq.nil | ((with_reducible apply LEq.cons); (case h => (conv => lhs; whnf); try exact rfl)) | (apply LEq.cons; (case h => (conv => lhs; whnf); try exact rfl))))))
              | ((with_reducible apply OpR.ldw); (case hy => exact rfl); (case ht => first | (with_reducible exact sz0) | (with_reducible exact sz1) | (with_reducible exact sz2) | (with_reducible exact sz3) | (with_reducible exact sz4) | (with_reducible exact sz5) | (with_reducible exact sz6) | (with_reducible exact sz7) | (with_reducible exact sz8) | (with_reducible exact sz9)); (case hb => exact rfl); (case hl => kernel_rfl))
              | exact OpR.r fun _ => rfl))
           | fail)
        exact ⟨.inr rfl, rfl⟩
      ·
        obtain ⟨⟨gk, gi0, gi1, ge0, ge1, ga0, ga1, to0, to1⟩, _⟩ := k1 (by omega)
        by_cases hg : e.gk = 1
        ·
          have ht : tailW e = [wGive, wShare, Lib.itoa e.gi, Lib.itoa e.ge, Lib.itoa e.ga, wTo, Lib.itoa e.to] := by unfold tailW; rw [if_neg h0, if_neg h2, if_pos hg]
          have hj := joinW_c (ws := [Lib.itoa e.r, Lib.itoa e.n, Lib.itoa e.t, fmtS e.past, wGive, wShare, Lib.itoa e.gi, Lib.itoa e.ge, Lib.itoa e.ga, wTo, Lib.itoa e.to]) (by
            intro x hx
            simp only [List.mem_cons, List.not_mem_nil, or_false] at hx
            rcases hx with rfl | rfl | rfl | rfl | rfl | rfl | rfl | rfl | rfl | rfl | rfl <;> first | exact hcl | exact itoa_len1000 (by omega) (by omega) | decide) (by simp)
          have hfe : fmtE e = Lib.join [Lib.itoa e.r, Lib.itoa e.n, Lib.itoa e.t, fmtS e.past, wGive, wShare, Lib.itoa e.gi, Lib.itoa e.ge, Lib.itoa e.ga, wTo, Lib.itoa e.to] [32] := by unfold fmtE; rw [if_pos hf, ht]; rfl
          rw [hfe]
          repeat' (first
             | (with_reducible apply EvK.seq)
             | (with_reducible apply EvK.block)
             | ((with_reducible apply EvK.text); (try case hm => exact rfl))
             | ((with_reducible apply EvK.drawn); (case hm => exact rfl))
             | (with_reducible apply EvK.skip)
             | (with_reducible apply EvK.ret)
             | (with_reducible apply thenK_n)
             | ((with_reducible apply EvK.cond_t); (case hc => exact rfl))
             | ((with_reducible apply EvK.cond_f); (case hc => exact rfl))
             | ((with_reducible apply EvO.spd_t); (case hp => first | assumption | omega))
             | ((with_reducible apply EvO.spd_f); (case hp => first | assumption | omega))
             | (with_reducible apply EvO.nilT)
             | (with_reducible apply EvO.nilB)
             | ((with_reducible apply EvO.u0); (case hx => first
                | ((with_reducible apply OpR.mv); (conv => lhs; whnf); try exact rfl)
                | ((with_reducible apply OpR.asg); (conv => lhs; whnf); try exact rfl)
                | ((with_reducible apply OpR.callF); (case hcal => exact rfl); (case hav => exact rfl); (case hx => exact rfl); (case hh => exact rfl); (case hm => exact rfl); (case hcl => exact hF); (case hr => exact rfl))
                | ((with_reducible apply OpR.callF); (case hcal => exact rfl); (case hav => exact rfl); (case hx => exact rfl); (case hh => exact rfl); (case hm => exact rfl); (case hcl => exact hcf); (case hr => exact rfl))
                | ((with_reducible apply OpR.callF); (case hcal => exact rfl); (case hav => exact rfl); (case hx => exact rfl); (case hh => exact rfl); (case hm => exact rfl); (case hcl => exact itoaA_c (by omega) (by omega)); (case hr => exact rfl))
                | ((with_reducible apply OpR.callF); (case hcal => exact rfl); (case hav => exact rfl); (case hx => exact rfl); (case hh => exact rfl); (case hm => exact rfl); (case hcl => exact hj); (case hr => exact rfl))
                | ((with_reducible apply OpR.fal); (case hy => exact rfl); (case ho => exact rfl); (case hn => (conv => lhs; whnf); try exact rfl))
                | ((with_reducible apply OpR.bxt); (case hs => exact fun _ => rfl); (case hy => exact rfl); (case ho => kernel_rfl); (case hn => (first | exact ln0 | exact ln1 | exact ln2 | exact ln3 | exact ln4 | exact ln5 | exact ln6 | exact ln7 | exact ln8 | exact ln9 | exact ln10 | exact ln11 | exact ln12 | exact ln13 | exact ln14)); (case hf => (repeat' (first | exact LEq.nil | ((with_reducible apply LEq.cons); (case h => (conv => lhs; whnf); try exact rfl)) | (apply LEq.cons; (case h => (conv => lhs; whnf); try exact rfl))))))
                | ((with_reducible apply OpR.ldw); (case hy => exact rfl); (case ht => first | (with_reducible exact sz0) | (with_reducible exact sz1) | (with_reducible exact sz2) | (with_reducible exact sz3) | (with_reducible exact sz4) | (with_reducible exact sz5) | (with_reducible exact sz6) | (with_reducible exact sz7) | (with_reducible exact sz8) | (with_reducible exact sz9)); (case hb => exact rfl); (case hl => kernel_rfl))
                | exact OpR.r fun _ => rfl))
             | fail)
          exact ⟨.inr rfl, rfl⟩
        ·
          have ht : tailW e = [wGive, wRow, Lib.itoa e.gi, Lib.itoa e.ge, Lib.itoa e.ga, wTo, Lib.itoa e.to] := by unfold tailW; rw [if_neg h0, if_neg h2, if_neg hg]
          have hj := joinW_c (ws := [Lib.itoa e.r, Lib.itoa e.n, Lib.itoa e.t, fmtS e.past, wGive, wRow, Lib.itoa e.gi, Lib.itoa e.ge, Lib.itoa e.ga, wTo, Lib.itoa e.to]) (by
            intro x hx
            simp only [List.mem_cons, List.not_mem_nil, or_false] at hx
            rcases hx with rfl | rfl | rfl | rfl | rfl | rfl | rfl | rfl | rfl | rfl | rfl <;> first | exact hcl | exact itoa_len1000 (by omega) (by omega) | decide) (by simp)
          have hfe : fmtE e = Lib.join [Lib.itoa e.r, Lib.itoa e.n, Lib.itoa e.t, fmtS e.past, wGive, wRow, Lib.itoa e.gi, Lib.itoa e.ge, Lib.itoa e.ga, wTo, Lib.itoa e.to] [32] := by unfold fmtE; rw [if_pos hf, ht]; rfl
          rw [hfe]
          repeat' (first
             | (with_reducible apply EvK.seq)
             | (with_reducible apply EvK.block)
             | ((with_reducible apply EvK.text); (try case hm => exact rfl))
             | ((with_reducible apply EvK.drawn); (case hm => exact rfl))
             | (with_reducible apply EvK.skip)
             | (with_reducible apply EvK.ret)
             | (with_reducible apply thenK_n)
             | ((with_reducible apply EvK.cond_f); (case hc => exact rfl))
             | ((with_reducible apply EvO.spd_f); (case hp => first | assumption | omega))
             | (with_reducible apply EvO.nilT)
             | (with_reducible apply EvO.nilB)
             | ((with_reducible apply EvO.u0); (case hx => first
                | ((with_reducible apply OpR.mv); (conv => lhs; whnf); try exact rfl)
                | ((with_reducible apply OpR.asg); (conv => lhs; whnf); try exact rfl)
                | ((with_reducible apply OpR.callF); (case hcal => exact rfl); (case hav => exact rfl); (case hx => exact rfl); (case hh => exact rfl); (case hm => exact rfl); (case hcl => exact hF); (case hr => exact rfl))
                | ((with_reducible apply OpR.callF); (case hcal => exact rfl); (case hav => exact rfl); (case hx => exact rfl); (case hh => exact rfl); (case hm => exact rfl); (case hcl => exact hcf); (case hr => exact rfl))
                | ((with_reducible apply OpR.callF); (case hcal => exact rfl); (case hav => exact rfl); (case hx => exact rfl); (case hh => exact rfl); (case hm => exact rfl); (case hcl => exact itoaA_c (by omega) (by omega)); (case hr => exact rfl))
                | ((with_reducible apply OpR.callF); (case hcal => exact rfl); (case hav => exact rfl); (case hx => exact rfl); (case hh => exact rfl); (case hm => exact rfl); (case hcl => exact hj); (case hr => exact rfl))
                | ((with_reducible apply OpR.fal); (case hy => exact rfl); (case ho => exact rfl); (case hn => (conv => lhs; whnf); try exact rfl))
                | ((with_reducible apply OpR.bxt); (case hs => exact fun _ => rfl); (case hy => exact rfl); (case ho => kernel_rfl); (case hn => (first | exact ln0 | exact ln1 | exact ln2 | exact ln3 | exact ln4 | exact ln5 | exact ln6 | exact ln7 | exact ln8 | exact ln9 | exact ln10 | exact ln11 | exact ln12 | exact ln13 | exact ln14)); (case hf => (repeat' (first | exact LEq.nil | ((with_reducible apply LEq.cons); (case h => (conv => lhs; whnf); try exact rfl)) | (apply LEq.cons; (case h => (conv => lhs; whnf); try exact rfl))))))
                | ((with_reducible apply OpR.ldw); (case hy => exact rfl); (case ht => first | (with_reducible exact sz0) | (with_reducible exact sz1) | (with_reducible exact sz2) | (with_reducible exact sz3) | (with_reducible exact sz4) | (with_reducible exact sz5) | (with_reducible exact sz6) | (with_reducible exact sz7) | (with_reducible exact sz8) | (with_reducible exact sz9)); (case hb => exact rfl); (case hl => kernel_rfl))
                | exact OpR.r fun _ => rfl))
             | fail)
          exact ⟨.inr rfl, rfl⟩
end Go.Proofs.YtgbfedgghjcdcaaGreatDoor
