/- Law 32: the order of events; clocks and cuts of lists. No condition. -/
import Derived.Test.YtgbfedgghjcdcaaGreatDoorTK
import Derived.Test.YtgbfedgghjcdcaaGreatDoorWS
import Derived.Test.YtgbfedgghjcdcaaGreatDoorSpecPa
namespace Go.Proofs.YtgbfedgghjcdcaaGreatDoor
set_option linter.unusedSimpArgs false
set_option linter.unusedVariables false
set_option linter.unusedSectionVars false
open Go.RowKit
set_option maxRecDepth 100000
set_option maxHeartbeats 16000000

theorem newsE (l : List Ev) : newsOk 13 (evsE l) = true := by
  unfold newsOk evsE
  simp [evCs, oneA, intsA]
theorem eclone_c {e : Ev} {l : List Ev} (hl : l.length ≤ 1000) : Cl cfg 27 [.t (.arr (evsE (e :: l)))] [] (.ls 0) [.row false false 13 (evsE (e :: l))] := by
  refine Cl.ext (xs := [.arr (evsE (e :: l))]) (by kernel_rfl) rfl ?_
  have h1 := newsE (e :: l)
  have h2 : Nat.ble (evsE l).length 999999 = true := by rw [evsE_len, Nat.ble_eq]; omega
  show extA 27 [.arr (evCs e :: evsE l)] = _
  have h3 : newsOk 13 (evCs e :: evsE l) = true := h1
  have hx : cloneX (evCs e :: evsE l) = some (.ls 0, [.row false false 13 (evsE (e :: l))]) := by
    show (match newsOk 13 (evCs e :: evsE l) && Nat.ble (evsE l).length 999999 with | true => some (SV.ls 0, [Lb.row false false 13 (evCs e :: evsE l)]) | false => none) = _
    rw [h3, h2]; rfl
  have hP : extP 27 [.arr (evCs e :: evsE l)] = cloneX (evCs e :: evsE l) := rfl
  have hT : extT 27 [.arr (evCs e :: evsE l)] = none := rfl
  unfold extA
  rw [hT]
  show extP _ _ = _
  rw [hP, hx]
theorem sorts_c {l : List Ev} (hl : l.length ≤ 60) : Cl cfg 87 [.ls 0, cF] [.row false false 13 (evsE l)] (.tup []) [.row false false 13 (evsE (isort ltE l))] := by
  have hs := stable_c hl
  refine Cl.of_body rfl Tryz.func87 rfl rfl rfl ?_
  repeat' (first
     | ((with_reducible apply EvK.text); (try case hm => exact rfl))
     | (with_reducible apply EvO.nil)
     | ((with_reducible apply EvO.u0); (case hx => first
        | ((with_reducible apply OpR.mv); (conv => lhs; whnf); try exact rfl)
        | ((with_reducible apply OpR.callQ [0]); (case hdr => exact rfl); (case hcal => exact rfl); (case hav => exact rfl); (case hx => exact rfl); (case hh => exact rfl); (case hs0 => kernel_rfl); (case hf => kernel_rfl); (case hg => exact rfl); (case hc => kernel_rfl); (case hm => exact rfl); (case hb => exact rfl); (case hcl => exact hs); (case hk => exact rfl); (case hv => (conv => lhs; whnf); try exact rfl); (case hl => (repeat' (first | exact LEq.nil | ((with_reducible apply LEq.cons); (case h => (conv => lhs; whnf); try exact rfl)) | (apply LEq.cons; (case h => (conv => lhs; whnf); try exact rfl))))); (case hq => exact rfl))
        | ((with_reducible apply OpR.len); (case ha => exact rfl); (case hy => exact rfl); (case ht => exact rfl); (case hs => exact rfl); (case hn => first | exact List.length_map _ | exact rfl))))
     | fail)
  exact ⟨.inl rfl, rfl⟩
theorem order_c {e : Ev} {l : List Ev} (hl : l.length + 1 ≤ 60) : Cl cfg 42 [.t (.arr (evsE (e :: l)))] [] (.ls 0) [.row false false 13 (evsE (ordE (e :: l)))] := by
  have hc := eclone_c (e := e) (l := l) (by omega)
  have hs := sorts_c (l := e :: l) (by simp; omega)
  refine Cl.of_body rfl Tryz.func42 rfl rfl rfl ?_
  repeat' (first
     | (with_reducible apply EvK.seq)
     | ((with_reducible apply EvK.text); (try case hm => exact rfl))
     | (with_reducible apply EvK.ret)
     | (with_reducible apply EvO.nilT)
     | ((with_reducible apply EvO.u0); (case hx => first
        | ((with_reducible apply OpR.mv); (conv => lhs; whnf); try exact rfl)
        | ((with_reducible apply OpR.asg); (conv => lhs; whnf); try exact rfl)
        | ((with_reducible apply OpR.callX); (case hcal => exact rfl); (case hav => exact rfl); (case hx => exact rfl); (case hh => exact rfl); (case hm => exact rfl); (case hcl => exact hc); (case hr => exact rfl); (case hd => exact rfl); (case hq => kernel_rfl); (case hn => (first | exact ln0 | exact ln1 | exact ln2 | exact ln3 | exact ln4 | exact ln5 | exact ln6 | exact ln7 | exact ln8 | exact ln9 | exact ln10 | exact ln11 | exact ln12 | exact ln13 | exact ln14)); (case hv => (conv => lhs; whnf); try exact rfl); (case he => (repeat' (first | exact XFr.nil | (with_reducible apply XFr.row) | (with_reducible apply XFr.boxt) | ((apply XFr.box); (case hd => (repeat' (first | exact LEq.nil | ((with_reducible apply LEq.cons); (case h => (conv => lhs; whnf); try exact rfl)) | (apply LEq.cons; (case h => (conv => lhs; whnf); try exact rfl))))))))); (case hf => (repeat' (first | exact LEq.nil | ((with_reducible apply LEq.cons); (case h => (conv => lhs; whnf); try exact rfl)) | (apply LEq.cons; (case h => (conv => lhs; whnf); try exact rfl))))))
        | ((with_reducible apply OpR.callQ [0]); (case hdr => exact rfl); (case hcal => exact rfl); (case hav => exact rfl); (case hx => exact rfl); (case hh => exact rfl); (case hs0 => kernel_rfl); (case hf => kernel_rfl); (case hg => exact rfl); (case hc => kernel_rfl); (case hm => exact rfl); (case hb => exact rfl); (case hcl => exact hs); (case hk => exact rfl); (case hv => (conv => lhs; whnf); try exact rfl); (case hl => (repeat' (first | exact LEq.nil | ((with_reducible apply LEq.cons); (case h => (conv => lhs; whnf); try exact rfl)) | (apply LEq.cons; (case h => (conv => lhs; whnf); try exact rfl))))); (case hq => exact rfl))))
     | fail)
  exact ⟨.inr rfl, rfl⟩
theorem order_n : Cl cfg 42 [.t (.arr [])] [] (.t (.arr [])) [] := ⟨12, by kernel_rfl⟩
theorem zero_c {m : Nat} (h1 : 1 ≤ m) (h5 : m ≤ 5) : Cl cfg 73 [.t (.int .i64 (m : Int))] [] (.ls 0) [.row false false 1 (intsE (List.replicate m 0))] := by
  have : m = 1 ∨ m = 2 ∨ m = 3 ∨ m = 4 ∨ m = 5 := by omega
  rcases this with rfl | rfl | rfl | rfl | rfl <;> exact ⟨4, by kernel_rfl⟩
theorem eclock_c {l : List Ev} {m : Nat} (hC : ClosedP l) (hm : ∀ e ∈ l, e.past.length = m) (h1 : 1 ≤ m) (h5 : m ≤ 5) : Cl cfg 25 [.t (.int .i64 (m : Int)), .t (.arr (evsE l))] [] (.tup [.ls 0, .t (.int .i64 0)]) [.row false false 1 (intsE (clkE m l))] := by
  have hlen := hC.few
  have hlE := evsE_len l
  have kz := zero_c h1 h5
  have kc := closed_c (l := l) (by omega) (fun e he => by rw [hm e he]; omega)
  rw [closedB_t hC] at kc
  have hz0 : intsE (List.replicate m 0) = intsE (clkE m (l.take 0)) := rfl
  obtain ⟨z, zs, hz⟩ : ∃ z zs, intsE (List.replicate m 0) = z :: zs := by
    obtain ⟨k, rfl⟩ : ∃ k, m = k + 1 := ⟨m - 1, by omega⟩
    exact ⟨_, _, rfl⟩
  rw [hz] at kz hz0
  refine Cl.of_body rfl Tryz.func25 rfl rfl rfl ?_
  repeat' (first
     | (with_reducible apply EvK.seq)
     | (with_reducible apply EvK.block)
     | ((with_reducible apply EvK.text); (try case hm => exact rfl))
     | (with_reducible apply EvK.skip)
     | (with_reducible apply thenK_n)
     | ((with_reducible apply EvK.cond_f); (case hc => exact rfl))
     | (with_reducible apply EvO.nilT)
     | ((with_reducible apply EvO.gt0); (case hW => exact rfl); (case hx => first
        | ((with_reducible apply OpR.mv); (conv => lhs; whnf); try exact rfl)
        | ((with_reducible apply OpR.callF); (case hcal => exact rfl); (case hav => exact rfl); (case hx => exact rfl); (case hh => exact rfl); (case hm => exact rfl); (case hcl => exact kc); (case hr => exact rfl))
        | exact OpR.r fun _ => rfl))
     | ((with_reducible apply EvO.u0); (case hx => first
        | ((with_reducible apply OpR.mv); (conv => lhs; whnf); try exact rfl)
        | ((with_reducible apply OpR.asg); (conv => lhs; whnf); try exact rfl)
        | ((with_reducible apply OpR.pk_f); (case hc => exact rfl); (case h => (conv => lhs; whnf); try exact rfl))
        | ((with_reducible apply OpR.callX); (case hcal => exact rfl); (case hav => exact rfl); (case hx => exact rfl); (case hh => exact rfl); (case hm => exact rfl); (case hcl => exact kz); (case hr => exact rfl); (case hd => exact rfl); (case hq => kernel_rfl); (case hn => (first | exact ln0 | exact ln1 | exact ln2 | exact ln3 | exact ln4 | exact ln5 | exact ln6 | exact ln7 | exact ln8 | exact ln9 | exact ln10 | exact ln11 | exact ln12 | exact ln13 | exact ln14)); (case hv => (conv => lhs; whnf); try exact rfl); (case he => (repeat' (first | exact XFr.nil | (with_reducible apply XFr.row) | (with_reducible apply XFr.boxt) | ((apply XFr.box); (case hd => (repeat' (first | exact LEq.nil | ((with_reducible apply LEq.cons); (case h => (conv => lhs; whnf); try exact rfl)) | (apply LEq.cons; (case h => (conv => lhs; whnf); try exact rfl))))))))); (case hf => (repeat' (first | exact LEq.nil | ((with_reducible apply LEq.cons); (case h => (conv => lhs; whnf); try exact rfl)) | (apply LEq.cons; (case h => (conv => lhs; whnf); try exact rfl))))))
        | ((with_reducible apply OpR.len); (case ha => exact rfl); (case hy => exact rfl); (case ht => exact rfl); (case hs => exact rfl); (case hn => first | exact List.length_map _ | exact rfl))
        | exact OpR.r fun _ => rfl))
     | fail)
  apply EvK.loopV
  case ho => exact rfl
  case hp => exact rfl
  case hl => exact rfl
  case hs => repeat' (first | exact Slots.nil | (apply Slots.cons; (case hv => (conv => lhs; whnf); try exact rfl)))
  refine EvL.indF (fun k : Nat => [(20, .t (.int .i64 (k : Int)))]) (fun k => [.row false false 1 (intsE (clkE m (l.take k)))]) (fun k => k ≤ l.length) (fun k => l.length - k) 0 rfl (by rw [hz0]) (by omega) (fun k hk => ?_)
  rcases Nat.lt_or_ge k l.length with h3 | h3
  ·
    obtain ⟨e, he⟩ := get_of_lt h3
    have hmem := List.mem_of_getElem? he
    have hc := evsE_get he
    have hpl := hm e hmem
    have hle := intsE_len e.past
    obtain ⟨r0, r1, _, _⟩ := form_rng (hC.form e hmem)
    have hst := clkE_snoc (m := m) he
    have hcl := clkE_len m (l.take k)
    obtain ⟨c, hcc⟩ : ∃ c, clkE m (l.take k) = c := ⟨_, rfl⟩
    rw [hcc] at hst hcl ⊢
    obtain ⟨v, hv⟩ := get_of_lt (xs := c) (k := e.r.toNat) (by omega)
    have hk' := intsE_get hv
    have hlc := intsE_len c
    have hsn : (intsE c).set e.r.toNat [.int .i64 (max v e.n)] = intsE (clkE m (l.take (k + 1))) := by
      rw [hst, clkStep, getD_get hv]
      simp [intsE, List.map_set]
    repeat' (first
       | (with_reducible apply EvK.seq)
       | (with_reducible apply EvK.block)
       | ((with_reducible apply EvK.text); (try case hm => exact rfl))
       | ((with_reducible apply EvK.drawn); (case hm => exact rfl))
       | (with_reducible apply EvK.skip)
       | (with_reducible apply thenK_n)
       | ((with_reducible apply EvK.cond_t); (case hc => exact rfl))
       | ((with_reducible apply EvK.cond_f); (case hc => exact rfl))
       | ((with_reducible apply EvO.spd_t); (case hp => first | assumption | omega))
       | ((with_reducible apply EvO.spn_f); (case hp => first | assumption | omega))
       | (with_reducible apply EvO.nilT)
       | (with_reducible apply EvO.nilB)
       | ((with_reducible apply EvO.u0); (case hx => first
          | ((with_reducible apply OpR.mv); (conv => lhs; whnf); try exact rfl)
          | ((with_reducible apply OpR.sti); (case hs => exact fun _ => rfl); (case ha => exact rfl); (case hy => exact rfl); (case ht => exact rfl); (case hone => exact rfl); (case hn => kernel_rfl); (case hb => exact rfl); (case hk => exact hk'); (case hj => exact rfl); (case hv => exact hsn); (case hf => (repeat' (first | exact LEq.nil | ((with_reducible apply LEq.cons); (case h => (conv => lhs; whnf); try exact rfl)) | (apply LEq.cons; (case h => (conv => lhs; whnf); try exact rfl))))))
          | ((with_reducible apply OpR.inc); (case hx => exact rfl); (case hy => exact rfl); (case h => omega))
          | ((with_reducible apply OpR.len); (case ha => exact rfl); (case hy => exact rfl); (case ht => exact rfl); (case hs => exact rfl); (case hn => first | exact List.length_map _ | exact rfl))
          | ((with_reducible apply OpR.ix); (case he => first | (with_reducible exact el0) | (with_reducible exact el1) | (with_reducible exact el2) | (with_reducible exact el3) | (with_reducible exact el4) | (with_reducible exact el5) | (with_reducible exact el6) | (with_reducible exact el7) | exact rfl); (case hx => exact rfl); (case hi => exact rfl); (case hc => assumption); (case hz => exact rfl))
          | ((with_reducible apply OpR.fal); (case hy => exact rfl); (case ho => exact rfl); (case hn => (conv => lhs; whnf); try exact rfl))
          | ((with_reducible apply OpR.al); (case hs => exact fun _ => rfl); (case hz => exact rfl); (case hc => (repeat' (first | exact LEq.nil | ((with_reducible apply LEq.cons); (case h => (conv => lhs; whnf); try exact rfl)) | (apply LEq.cons; (case h => (conv => lhs; whnf); try exact rfl))))); (case hn => (first | exact ln0 | exact ln1 | exact ln2 | exact ln3 | exact ln4 | exact ln5 | exact ln6 | exact ln7 | exact ln8 | exact ln9 | exact ln10 | exact ln11 | exact ln12 | exact ln13 | exact ln14)); (case hf => (repeat' (first | exact LEq.nil | ((with_reducible apply LEq.cons); (case h => (conv => lhs; whnf); try exact rfl)) | (apply LEq.cons; (case h => (conv => lhs; whnf); try exact rfl))))))
          | ((with_reducible apply OpR.stw); (case hs => exact fun _ => rfl); (case ha => exact rfl); (case hy => exact rfl); (case ht => first | (with_reducible exact sz0) | (with_reducible exact sz1) | (with_reducible exact sz2) | (with_reducible exact sz3) | (with_reducible exact sz4) | (with_reducible exact sz5) | (with_reducible exact sz6) | (with_reducible exact sz7) | (with_reducible exact sz8) | (with_reducible exact sz9) | exact rfl); (case ho => kernel_rfl); (case hl => kernel_rfl); (case hb => exact rfl); (case hc => kernel_rfl); (case hf => (repeat' (first | exact LEq.nil | ((with_reducible apply LEq.cons); (case h => (conv => lhs; whnf); try exact rfl)) | (apply LEq.cons; (case h => (conv => lhs; whnf); try exact rfl))))))
          | ((with_reducible apply OpR.ixrm); (case he => first | (with_reducible exact el0) | (with_reducible exact el1) | (with_reducible exact el2) | (with_reducible exact el3) | (with_reducible exact el4) | (with_reducible exact el5) | (with_reducible exact el6) | (with_reducible exact el7) | exact rfl); (case hx => exact rfl); (case hi => exact rfl); (case hb => exact rfl); (case h0 => first | assumption | omega); (case hq => first | assumption | omega))
          | ((with_reducible apply OpR.ldi); (case hy => exact rfl); (case ht => exact rfl); (case hb => exact rfl); (case hk => assumption))
          | exact OpR.r fun _ => rfl))
       | fail)
    refine ⟨k + 1, rfl, rfl, by omega, by omega⟩
  ·
    rw [List.take_of_length_le h3]
    repeat' (first
       | (with_reducible apply EvK.seq)
       | ((with_reducible apply EvK.text); (try case hm => exact rfl))
       | (with_reducible apply EvK.exit)
       | (with_reducible apply EvK.ret)
       | (with_reducible apply thenK_n)
       | (with_reducible apply thenK_e)
       | (with_reducible apply blockK_h)
       | ((with_reducible apply EvK.cond_f); (case hc => exact rfl))
       | ((with_reducible apply EvO.spd_f); (case hp => first | assumption | omega))
       | (with_reducible apply EvO.nilT)
       | ((with_reducible apply EvO.u0); (case hx => first
          | ((with_reducible apply OpR.mv); (conv => lhs; whnf); try exact rfl)
          | ((with_reducible apply OpR.asg); (conv => lhs; whnf); try exact rfl)
          | exact OpR.r fun _ => rfl))
       | fail)
    exact ⟨.inr rfl, rfl⟩
theorem cutE_snoc {l : List Ev} {c : List Int} {k : Nat} {e : Ev} (h : l[k]? = some e) : cutE (l.take (k + 1)) c = cutE (l.take k) c ++ if hasS c e.r e.n = true then [e] else [] := by
  unfold cutE
  rw [take_succ' h, List.filter_append]
  congr 1
  rw [List.filter_cons]
  split <;> rfl
theorem ecut_c {l : List Ev} {c : List Int} (hl : l.length ≤ 1000) (hc : c.length ≤ 1000) : Cl cfg 44 [.t (.arr (evsE l)), .t (intsA c)] [] (.ls 0) [.row false false 13 (evsE (cutE l c))] := by
  have hlE := evsE_len l
  refine Cl.of_body rfl Tryz.func44 rfl rfl rfl ?_
  repeat' (first
     | (with_reducible apply EvK.seq)
     | (with_reducible apply EvK.block)
     | ((with_reducible apply EvK.text); (try case hm => exact rfl))
     | (with_reducible apply EvO.nilT)
     | ((with_reducible apply EvO.u0); (case hx => first
        | ((with_reducible apply OpR.mv); (conv => lhs; whnf); try exact rfl)
        | ((with_reducible apply OpR.asg); (conv => lhs; whnf); try exact rfl)
        | ((with_reducible apply OpR.len); (case ha => exact rfl); (case hy => exact rfl); (case ht => exact rfl); (case hs => exact rfl); (case hn => first | exact List.length_map _ | exact rfl))))
     | fail)
  apply EvK.loopV
  case ho => exact rfl
  case hp => exact rfl
  case hl => exact rfl
  case hs => repeat' (first | exact Slots.nil | (apply Slots.cons; (case hv => (conv => lhs; whnf); try exact rfl)))
  refine EvL.indF (fun s : Nat × Bool => [(5, .ls 0), (10, .t (.int .i64 (s.1 : Int)))]) (fun s => [.row false s.2 13 (evsE (cutE (l.take s.1) c))]) (fun s => s.1 ≤ l.length) (fun s => l.length - s.1) (0, false) rfl rfl (by simp) (fun s hq => ?_)
  obtain ⟨k, tch⟩ := s
  dsimp only at hq ⊢
  rcases Nat.lt_or_ge k l.length with h3 | h3
  ·
    obtain ⟨e, he⟩ := get_of_lt h3
    have hce := evsE_get he
    have kn := name_c e
    have kh := has_c (a := c) (r := e.r) (n := e.n) (by omega)
    have hst := cutE_snoc (c := c) he
    have hcl : (cutE (l.take k) c).length ≤ k := Nat.le_trans (List.length_filter_le _ _) (by simp; omega)
    obtain ⟨X, hX⟩ : ∃ X, cutE (l.take k) c = X := ⟨_, rfl⟩
    rw [hX] at hst hcl ⊢
    cases hh : hasS c e.r e.n with
    | false =>
      rw [hh] at kh
      rw [hh, if_neg (by decide), List.append_nil] at hst
      repeat' (first
         | (with_reducible apply EvK.seq)
         | (with_reducible apply EvK.block)
         | ((with_reducible apply EvK.text); (try case hm => exact rfl))
         | (with_reducible apply EvK.skip)
         | (with_reducible apply thenK_n)
         | (with_reducible apply blockK_n)
         | ((with_reducible apply EvK.cond_t); (case hc => exact rfl))
         | ((with_reducible apply EvK.cond_f); (case hc => exact rfl))
         | ((with_reducible apply EvO.spd_t); (case hp => first | assumption | omega))
         | (with_reducible apply EvO.nilT)
         | ((with_reducible apply EvO.u0); (case hx => first
            | ((with_reducible apply OpR.mv); (conv => lhs; whnf); try exact rfl)
            | ((with_reducible apply OpR.callF); (case hcal => exact rfl); (case hav => exact rfl); (case hx => exact rfl); (case hh => exact rfl); (case hm => exact rfl); (case hcl => exact kn); (case hr => exact rfl))
            | ((with_reducible apply OpR.callF); (case hcal => exact rfl); (case hav => exact rfl); (case hx => exact rfl); (case hh => exact rfl); (case hm => exact rfl); (case hcl => exact kh); (case hr => exact rfl))
            | ((with_reducible apply OpR.inc); (case hx => exact rfl); (case hy => exact rfl); (case h => omega))
            | ((with_reducible apply OpR.ix); (case he => first | (with_reducible exact el0) | (with_reducible exact el1) | (with_reducible exact el2) | (with_reducible exact el3) | (with_reducible exact el4) | (with_reducible exact el5) | (with_reducible exact el6) | (with_reducible exact el7) | exact rfl); (case hx => exact rfl); (case hi => exact rfl); (case hc => assumption); (case hz => exact rfl))
            | ((with_reducible apply OpR.al); (case hs => exact fun _ => rfl); (case hz => exact rfl); (case hc => (repeat' (first | exact LEq.nil | ((with_reducible apply LEq.cons); (case h => (conv => lhs; whnf); try exact rfl)) | (apply LEq.cons; (case h => (conv => lhs; whnf); try exact rfl))))); (case hn => (first | exact ln0 | exact ln1 | exact ln2 | exact ln3 | exact ln4 | exact ln5 | exact ln6 | exact ln7 | exact ln8 | exact ln9 | exact ln10 | exact ln11 | exact ln12 | exact ln13 | exact ln14)); (case hf => (repeat' (first | exact LEq.nil | ((with_reducible apply LEq.cons); (case h => (conv => lhs; whnf); try exact rfl)) | (apply LEq.cons; (case h => (conv => lhs; whnf); try exact rfl))))))
            | ((with_reducible apply OpR.stw); (case hs => exact fun _ => rfl); (case ha => exact rfl); (case hy => exact rfl); (case ht => first | (with_reducible exact sz0) | (with_reducible exact sz1) | (with_reducible exact sz2) | (with_reducible exact sz3) | (with_reducible exact sz4) | (with_reducible exact sz5) | (with_reducible exact sz6) | (with_reducible exact sz7) | (with_reducible exact sz8) | (with_reducible exact sz9) | exact rfl); (case ho => kernel_rfl); (case hl => kernel_rfl); (case hb => exact rfl); (case hc => kernel_rfl); (case hf => (repeat' (first | exact LEq.nil | ((with_reducible apply LEq.cons); (case h => (conv => lhs; whnf); try exact rfl)) | (apply LEq.cons; (case h => (conv => lhs; whnf); try exact rfl))))))
            | ((with_reducible apply OpR.ldw); (case hy => exact rfl); (case ht => first | (with_reducible exact sz0) | (with_reducible exact sz1) | (with_reducible exact sz2) | (with_reducible exact sz3) | (with_reducible exact sz4) | (with_reducible exact sz5) | (with_reducible exact sz6) | (with_reducible exact sz7) | (with_reducible exact sz8) | (with_reducible exact sz9)); (case hb => exact rfl); (case hl => kernel_rfl))
            | exact OpR.r fun _ => rfl))
         | fail)
      refine ⟨(k + 1, tch), rfl, by dsimp only; rw [hst]; rfl, by dsimp only; omega, by dsimp only; omega⟩
    | true =>
      rw [hh] at kh
      rw [hh, if_pos rfl] at hst
      have hsn : evsE X ++ [evCs e] = evsE (cutE (l.take (k + 1)) c) := by rw [hst]; simp [evsE]
      have hlX : lenOk ((evsE X).length + 1) 120 = true := by rw [evsE_len]; simp [lenOk]; omega
      repeat' (first
         | (with_reducible apply EvK.seq)
         | (with_reducible apply EvK.block)
         | ((with_reducible apply EvK.text); (try case hm => exact rfl))
         | (with_reducible apply EvK.skip)
         | (with_reducible apply thenK_n)
         | ((with_reducible apply EvK.cond_t); (case hc => exact rfl))
         | ((with_reducible apply EvO.spd_t); (case hp => first | assumption | omega))
         | (with_reducible apply EvO.nilT)
         | (with_reducible apply EvO.nilB)
         | ((with_reducible apply EvO.u); (case hx => ((with_reducible apply OpR.apr); (case hs => exact fun _ => rfl); (case ha => exact rfl); (case ht => exact rfl); (case hr => first | (with_reducible exact rw0) | (with_reducible exact rw1) | (with_reducible exact rw2) | (with_reducible exact rw3) | (with_reducible exact rw4) | exact rfl); (case hx => exact rfl); (case hy => exact rfl); (case hn => exact rfl); (case hb => exact rfl); (case hok => exact rfl); (case hlen => exact hlX); (case hv => exact hsn); (case hk => (repeat' (first | exact KFr.nil | (with_reducible apply KFr.row) | (with_reducible apply KFr.boxt) | ((apply KFr.box); (case hd => (repeat' (first | exact LEq.nil | ((with_reducible apply LEq.cons); (case h => (conv => lhs; whnf); try exact rfl)) | (apply LEq.cons; (case h => (conv => lhs; whnf); try exact rfl))))))))); (case hf => (repeat' (first | exact LEq.nil | ((with_reducible apply LEq.cons); (case h => (conv => lhs; whnf); try exact rfl)) | (apply LEq.cons; (case h => (conv => lhs; whnf); try exact rfl))))))))
         | ((with_reducible apply EvO.u0); (case hx => first
            | ((with_reducible apply OpR.mv); (conv => lhs; whnf); try exact rfl)
            | ((with_reducible apply OpR.asg); (conv => lhs; whnf); try exact rfl)
            | ((with_reducible apply OpR.callF); (case hcal => exact rfl); (case hav => exact rfl); (case hx => exact rfl); (case hh => exact rfl); (case hm => exact rfl); (case hcl => exact kn); (case hr => exact rfl))
            | ((with_reducible apply OpR.callF); (case hcal => exact rfl); (case hav => exact rfl); (case hx => exact rfl); (case hh => exact rfl); (case hm => exact rfl); (case hcl => exact kh); (case hr => exact rfl))
            | ((with_reducible apply OpR.inc); (case hx => exact rfl); (case hy => exact rfl); (case h => omega))
            | ((with_reducible apply OpR.ix); (case he => first | (with_reducible exact el0) | (with_reducible exact el1) | (with_reducible exact el2) | (with_reducible exact el3) | (with_reducible exact el4) | (with_reducible exact el5) | (with_reducible exact el6) | (with_reducible exact el7) | exact rfl); (case hx => exact rfl); (case hi => exact rfl); (case hc => assumption); (case hz => exact rfl))
            | ((with_reducible apply OpR.al); (case hs => exact fun _ => rfl); (case hz => exact rfl); (case hc => (repeat' (first | exact LEq.nil | ((with_reducible apply LEq.cons); (case h => (conv => lhs; whnf); try exact rfl)) | (apply LEq.cons; (case h => (conv => lhs; whnf); try exact rfl))))); (case hn => (first | exact ln0 | exact ln1 | exact ln2 | exact ln3 | exact ln4 | exact ln5 | exact ln6 | exact ln7 | exact ln8 | exact ln9 | exact ln10 | exact ln11 | exact ln12 | exact ln13 | exact ln14)); (case hf => (repeat' (first | exact LEq.nil | ((with_reducible apply LEq.cons); (case h => (conv => lhs; whnf); try exact rfl)) | (apply LEq.cons; (case h => (conv => lhs; whnf); try exact rfl))))))
            | ((with_reducible apply OpR.stw); (case hs => exact fun _ => rfl); (case ha => exact rfl); (case hy => exact rfl); (case ht => first | (with_reducible exact sz0) | (with_reducible exact sz1) | (with_reducible exact sz2) | (with_reducible exact sz3) | (with_reducible exact sz4) | (with_reducible exact sz5) | (with_reducible exact sz6) | (with_reducible exact sz7) | (with_reducible exact sz8) | (with_reducible exact sz9) | exact rfl); (case ho => kernel_rfl); (case hl => kernel_rfl); (case hb => exact rfl); (case hc => kernel_rfl); (case hf => (repeat' (first | exact LEq.nil | ((with_reducible apply LEq.cons); (case h => (conv => lhs; whnf); try exact rfl)) | (apply LEq.cons; (case h => (conv => lhs; whnf); try exact rfl))))))
            | ((with_reducible apply OpR.ldw); (case hy => exact rfl); (case ht => first | (with_reducible exact sz0) | (with_reducible exact sz1) | (with_reducible exact sz2) | (with_reducible exact sz3) | (with_reducible exact sz4) | (with_reducible exact sz5) | (with_reducible exact sz6) | (with_reducible exact sz7) | (with_reducible exact sz8) | (with_reducible exact sz9)); (case hb => exact rfl); (case hl => kernel_rfl))
            | exact OpR.r fun _ => rfl))
         | fail)
      refine ⟨(k + 1, true), rfl, rfl, by dsimp only; omega, by dsimp only; omega⟩
  ·
    rw [List.take_of_length_le h3]
    repeat' (first
       | (with_reducible apply EvK.seq)
       | ((with_reducible apply EvK.text); (try case hm => exact rfl))
       | (with_reducible apply EvK.exit)
       | (with_reducible apply EvK.ret)
       | (with_reducible apply thenK_n)
       | (with_reducible apply thenK_e)
       | (with_reducible apply blockK_h)
       | ((with_reducible apply EvK.cond_f); (case hc => exact rfl))
       | ((with_reducible apply EvO.spd_f); (case hp => first | assumption | omega))
       | (with_reducible apply EvO.nilT)
       | ((with_reducible apply EvO.u0); (case hx => first
          | ((with_reducible apply OpR.mv); (conv => lhs; whnf); try exact rfl)
          | ((with_reducible apply OpR.asg); (conv => lhs; whnf); try exact rfl)
          | exact OpR.r fun _ => rfl))
       | fail)
    exact ⟨.inr rfl, rfl⟩
end Go.Proofs.YtgbfedgghjcdcaaGreatDoor
