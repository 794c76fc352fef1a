/- Law 32: the text of an event, read by the code. No condition. -/
import Derived.Test.YtgbfedgghjcdcaaGreatDoorEA
import Derived.Test.YtgbfedgghjcdcaaGreatDoorVX
namespace Go.Proofs.YtgbfedgghjcdcaaGreatDoor
set_option linter.unusedSimpArgs false
set_option linter.unusedVariables false
set_option linter.unusedSectionVars false
open Go.RowKit
set_option maxRecDepth 100000
set_option maxHeartbeats 16000000

theorem cutS_c (s p : ByteArray) (h : s.size ≤ 1000) : Cl cfg 60 [.t (.str s), .t (.str p)] [] (.tup [.t (.str (bs (Lib.cut s.data.toList p.data.toList).1)), .t (.str (bs (Lib.cut s.data.toList p.data.toList).2.1)), .t (.bool (Lib.cut s.data.toList p.data.toList).2.2)]) [] := by
  refine Cl.ext (xs := [.str s, .str p]) rfl rfl (ext_of2 rfl ?_)
  have h1 : Nat.beq 60 106 = false := rfl
  have h2 : (Nat.beq 60 107 && decide (s.size ≤ 9223372036854775807)) = false := rfl
  have h3 : (Nat.beq 60 63 && (decide (p = ⟨#[32]⟩) && decide (s.size ≤ 1048576))) = false := rfl
  have h4 : (Nat.beq 60 60 && decide (s.size ≤ 1048576)) = true := by simp; omega
  unfold extP
  simp only [h1, h2, h3, h4]
  rfl
theorem atoi_any {s : ByteArray} (h : s.size ≤ 1000) : ∃ z : AV, Cl cfg 108 [.t (.str s)] [] (.tup [.t (.int .i64 (atoiV s.data.toList)), .t z]) [] := by
  by_cases hok : ∃ v, Lib.atoiAll s.data.toList = .ok v
  · obtain ⟨v, hv⟩ := hok
    have e : atoiV s.data.toList = v := by unfold atoiV; rw [hv]
    rw [e]
    exact ⟨_, atoi_c h hv⟩
  · exact ⟨_, atoib_c h fun v hv => hok ⟨v, hv⟩⟩
def strB (ws : List ByteArray) : List (List AV) := ws.map fun w => [.str w]
def numsB (ws : List ByteArray) : List Int := ws.map fun w => atoiV w.data.toList
theorem strB_get {ws : List ByteArray} {k : Nat} {w : ByteArray} (h : ws[k]? = some w) : (strB ws)[k]? = some [.str w] := by simp [strB, h]
theorem numbers_c {ws : List ByteArray} (hl : ws.length ≤ 1000) (hs : ∀ w ∈ ws, w.size ≤ 1000) : Cl cfg 62 [.t (.arr (strB ws))] [] (.ls 0) [.row false false 1 (intsE (numsB ws))] := by
  have hbl : (strB ws).length = ws.length := by simp [strB]
  refine Cl.of_body rfl Tryz.func62 rfl rfl rfl ?_
  repeat' (first
     | (with_reducible apply EvK.seq)
     | (with_reducible apply EvK.block)
     | ((with_reducible apply EvK.text); (try case hm => exact rfl))
     | (with_reducible apply EvO.nilT)
     | ((with_reducible apply EvO.u0); (case hx => first
        | ((with_reducible apply OpR.mv); (conv => lhs; whnf); try exact rfl)
        | ((with_reducible apply OpR.asg); (conv => lhs; whnf); try exact rfl)
        | ((with_reducible apply OpR.len); (case ha => exact rfl); (case hy => exact rfl); (case ht => exact rfl); (case hs => exact rfl); (case hn => first | exact List.length_map _ | exact rfl))))
     | fail)
  apply EvK.loopV
  case ho => exact rfl
  case hp => exact rfl
  case hl => exact rfl
  case hs => repeat' (first | exact Slots.nil | (apply Slots.cons; (case hv => (conv => lhs; whnf); try exact rfl)))
  refine EvL.indF (fun q : Nat => [(3, .ls 0), (10, .t (.int .i64 (q : Int)))]) (fun q => [.row false (Nat.blt 0 q) 1 (intsE (numsB (ws.take q)))]) (fun q => q ≤ ws.length) (fun q => ws.length - q) 0 rfl rfl (by omega) (fun q hq => ?_)
  rcases Nat.lt_or_ge q ws.length with h3 | h3
  ·
    obtain ⟨w, hw⟩ := get_of_lt h3
    have hc := strB_get hw
    obtain ⟨z, hat⟩ := atoi_any (hs w (List.mem_of_getElem? hw))
    have hsn : intsE (numsB (ws.take q)) ++ [[.int .i64 (atoiV w.data.toList)]] = intsE (numsB (ws.take (q + 1))) := by unfold intsE numsB; rw [List.take_add_one, hw, List.map_append, List.map_append]; rfl
    repeat' (first
       | (with_reducible apply EvK.seq)
       | (with_reducible apply EvK.block)
       | ((with_reducible apply EvK.text); (try case hm => exact rfl))
       | (with_reducible apply EvK.skip)
       | (with_reducible apply thenK_n)
       | ((with_reducible apply EvK.cond_t); (case hc => exact rfl))
       | ((with_reducible apply EvO.spd_t); (case hp => first | assumption | omega))
       | (with_reducible apply EvO.nilT)
       | (with_reducible apply EvO.nilB)
       | ((with_reducible apply EvO.u); (case hx => ((with_reducible apply OpR.apr); (case hs => exact fun _ => rfl); (case ha => exact rfl); (case ht => exact rfl); (case hr => first | (with_reducible exact rw0) | (with_reducible exact rw1) | (with_reducible exact rw2) | (with_reducible exact rw3) | (with_reducible exact rw4) | exact rfl); (case hx => exact rfl); (case hy => exact rfl); (case hn => exact rfl); (case hb => exact rfl); (case hok => exact rfl); (case hlen => exact lenI (by simp [intsE_len, numsB]; omega)); (case hv => exact hsn); (case hk => (repeat' (first | exact KFr.nil | (with_reducible apply KFr.row) | (with_reducible apply KFr.boxt) | ((apply KFr.box); (case hd => (repeat' (first | exact LEq.nil | ((with_reducible apply LEq.cons); (case h => (conv => lhs; whnf); try exact rfl)) | (apply LEq.cons; (case h => (conv => lhs; whnf); try exact rfl))))))))); (case hf => (repeat' (first | exact LEq.nil | ((with_reducible apply LEq.cons); (case h => (conv => lhs; whnf); try exact rfl)) | (apply LEq.cons; (case h => (conv => lhs; whnf); try exact rfl))))))))
       | ((with_reducible apply EvO.u0); (case hx => first
          | ((with_reducible apply OpR.mv); (conv => lhs; whnf); try exact rfl)
          | ((with_reducible apply OpR.asg); (conv => lhs; whnf); try exact rfl)
          | ((with_reducible apply OpR.callN); (case hcal => exact rfl); (case hav => exact rfl); (case hx => exact rfl); (case hh => exact rfl); (case hm => exact rfl); (case hcl => exact hat); (case hn => exact rfl); (case hr => exact rfl))
          | ((with_reducible apply OpR.inc); (case hx => exact rfl); (case hy => exact rfl); (case h => omega))
          | ((with_reducible apply OpR.ix); (case he => first | (with_reducible exact el0) | (with_reducible exact el1) | (with_reducible exact el2) | (with_reducible exact el3) | (with_reducible exact el4) | (with_reducible exact el5) | (with_reducible exact el6) | (with_reducible exact el7) | exact rfl); (case hx => exact rfl); (case hi => exact rfl); (case hc => assumption); (case hz => exact rfl))
          | exact OpR.r fun _ => rfl))
       | fail)
    refine ⟨q + 1, rfl, rfl, by omega, by omega⟩
  ·
    rw [List.take_of_length_le h3]
    repeat' (first
       | (with_reducible apply EvK.seq)
       | ((with_reducible apply EvK.text); (try case hm => exact rfl))
       | (with_reducible apply EvK.exit)
       | (with_reducible apply EvK.ret)
       | (with_reducible apply thenK_n)
       | (with_reducible apply thenK_e)
       | (with_reducible apply blockK_h)
       | ((with_reducible apply EvK.cond_f); (case hc => exact rfl))
       | ((with_reducible apply EvO.spd_f); (case hp => first | assumption | omega))
       | (with_reducible apply EvO.nilT)
       | ((with_reducible apply EvO.u0); (case hx => first
          | ((with_reducible apply OpR.mv); (conv => lhs; whnf); try exact rfl)
          | ((with_reducible apply OpR.asg); (conv => lhs; whnf); try exact rfl)
          | exact OpR.r fun _ => rfl))
       | fail)
    exact ⟨.inr rfl, rfl⟩
/-- An event whose past is a slot. -/
def evSv (e : Ev) (p : SV) : SV := .agg [.t (.int .i64 e.r), .t (.int .i64 e.n), .t (.int .i64 e.t), p, .t (.int .i64 e.k), .t (.int .i64 e.a), .t (.int .i64 e.gk), .t (.int .i64 e.gi), .t (.int .i64 e.ge), .t (.int .i64 e.ga), .t (.int .i64 e.to), .t (.int .i64 e.pl), .t (.int .i64 e.se)]
def datas (ws : List ByteArray) : List (List UInt8) := ws.map (·.data.toList)
theorem datas_eq {w : ByteArray} {l : List UInt8} (h : w.data.toList = l) : w = bs l := by rw [← h, bs_of]
theorem datas_ne {w : ByteArray} {l : List UInt8} (h : ¬ w.data.toList = l) : ¬ w = bs l := fun e => h (by rw [e, bs_data])
theorem tail_c {ws : List ByteArray} (hl : ws.length ≤ 1000) (hs : ∀ w ∈ ws, w.size ≤ 1000) : Cl cfg 64 [.t (.arr (strB ws))] [] (.t (evA (tailC (datas ws)))) [] := by
  have hbl : (strB ws).length = ws.length := by simp [strB]
  have hn := numbers_c hl hs
  refine Cl.of_body rfl Tryz.func64 rfl rfl rfl ?_
  by_cases c6 : ws.length = 6
  ·
    match ws, c6 with
    | [w0, w1, w2, w3, w4, w5], _ =>
      have h7 : [w0, w1, w2, w3, w4, w5].length = 6 := rfl
      by_cases ha : w0.data.toList = wAction
      ·
        have he := datas_eq ha
        have ht : tailC (datas [w0, w1, w2, w3, w4, w5]) = ⟨0, 0, 0, [], 0, atoiV w1.data.toList, 0, 0, 0, 0, 0, atoiV w3.data.toList, atoiV w5.data.toList⟩ := by unfold tailC; rw [if_pos ⟨rfl, ha⟩]; rfl
        rw [ht]
        repeat' (first
           | (with_reducible apply EvK.seq)
           | (with_reducible apply EvK.block)
           | ((with_reducible apply EvK.text); (try case hm => exact rfl))
           | ((with_reducible apply EvK.drawn); (case hm => exact rfl))
           | (with_reducible apply EvK.ret)
           | (with_reducible apply thenK_r)
           | (with_reducible apply blockK_r)
           | ((with_reducible apply EvK.cond_t); (case hc => exact rfl))
           | ((with_reducible apply EvO.spd_t); (case hp => first | assumption | omega))
           | ((with_reducible apply EvO.spd_yt); (case hp => first | assumption | omega))
           | (with_reducible apply EvO.nilT)
           | ((with_reducible apply EvO.gt0); (case hW => exact rfl); (case hx => first
              | ((with_reducible apply OpR.mv); (conv => lhs; whnf); try exact rfl)
              | exact OpR.r fun _ => rfl))
           | ((with_reducible apply EvO.u0); (case hx => first
              | ((with_reducible apply OpR.mv); (conv => lhs; whnf); try exact rfl)
              | ((with_reducible apply OpR.asg); (conv => lhs; whnf); try exact rfl)
              | ((with_reducible apply OpR.pk_t); (case hc => exact rfl); (case h => (conv => lhs; whnf); try exact rfl))
              | ((with_reducible apply OpR.callX); (case hcal => exact rfl); (case hav => exact rfl); (case hx => exact rfl); (case hh => exact rfl); (case hm => exact rfl); (case hcl => exact hn); (case hr => exact rfl); (case hd => exact rfl); (case hq => kernel_rfl); (case hn => (first | exact ln0 | exact ln1 | exact ln2 | exact ln3 | exact ln4 | exact ln5 | exact ln6 | exact ln7 | exact ln8 | exact ln9 | exact ln10 | exact ln11 | exact ln12 | exact ln13 | exact ln14)); (case hv => (conv => lhs; whnf); try exact rfl); (case he => (repeat' (first | exact XFr.nil | (with_reducible apply XFr.row) | (with_reducible apply XFr.boxt) | ((apply XFr.box); (case hd => (repeat' (first | exact LEq.nil | ((with_reducible apply LEq.cons); (case h => (conv => lhs; whnf); try exact rfl)) | (apply LEq.cons; (case h => (conv => lhs; whnf); try exact rfl))))))))); (case hf => (repeat' (first | exact LEq.nil | ((with_reducible apply LEq.cons); (case h => (conv => lhs; whnf); try exact rfl)) | (apply LEq.cons; (case h => (conv => lhs; whnf); try exact rfl))))))
              | ((with_reducible apply OpR.len); (case ha => exact rfl); (case hy => exact rfl); (case ht => exact rfl); (case hs => exact rfl); (case hn => first | exact List.length_map _ | exact rfl))
              | ((with_reducible apply OpR.al); (case hs => exact fun _ => rfl); (case hz => exact rfl); (case hc => (repeat' (first | exact LEq.nil | ((with_reducible apply LEq.cons); (case h => (conv => lhs; whnf); try exact rfl)) | (apply LEq.cons; (case h => (conv => lhs; whnf); try exact rfl))))); (case hn => (first | exact ln0 | exact ln1 | exact ln2 | exact ln3 | exact ln4 | exact ln5 | exact ln6 | exact ln7 | exact ln8 | exact ln9 | exact ln10 | exact ln11 | exact ln12 | exact ln13 | exact ln14)); (case hf => (repeat' (first | exact LEq.nil | ((with_reducible apply LEq.cons); (case h => (conv => lhs; whnf); try exact rfl)) | (apply LEq.cons; (case h => (conv => lhs; whnf); try exact rfl))))))
              | ((with_reducible apply OpR.sto); (case hs => exact fun _ => rfl); (case ha => exact rfl); (case hy => exact rfl); (case ht => first | (with_reducible exact sz0) | (with_reducible exact sz1) | (with_reducible exact sz2) | (with_reducible exact sz3) | (with_reducible exact sz4) | (with_reducible exact sz5) | (with_reducible exact sz6) | (with_reducible exact sz7) | (with_reducible exact sz8) | (with_reducible exact sz9) | exact rfl); (case hv => exact rfl); (case ho => kernel_rfl); (case hb => exact rfl); (case hc => kernel_rfl); (case hd => (repeat' (first | exact LEq.nil | ((with_reducible apply LEq.cons); (case h => (conv => lhs; whnf); try exact rfl)) | (apply LEq.cons; (case h => (conv => lhs; whnf); try exact rfl))))); (case hf => (repeat' (first | exact LEq.nil | ((with_reducible apply LEq.cons); (case h => (conv => lhs; whnf); try exact rfl)) | (apply LEq.cons; (case h => (conv => lhs; whnf); try exact rfl))))))
              | exact OpR.r fun _ => rfl))
           | fail)
        exact ⟨.inr rfl, rfl⟩
      ·
        have he := datas_ne ha
        have ht : tailC (datas [w0, w1, w2, w3, w4, w5]) = ⟨0, 0, 0, [], 0, 0, 0, 0, 0, 0, 0, 0, 0⟩ := by
          unfold tailC
          rw [if_neg (fun h => ha h.2), if_neg (by simp [datas]), if_neg (by simp [datas])]
        rw [ht]
        repeat' (first
           | (with_reducible apply EvK.seq)
           | (with_reducible apply EvK.block)
           | ((with_reducible apply EvK.text); (try case hm => exact rfl))
           | (with_reducible apply EvK.skip)
           | (with_reducible apply EvK.ret)
           | (with_reducible apply thenK_n)
           | (with_reducible apply blockK_n)
           | ((with_reducible apply EvK.cond_f); (case hc => exact rfl))
           | ((with_reducible apply EvO.spd_t); (case hp => first | assumption | omega))
           | ((with_reducible apply EvO.spd_f); (case hp => first | assumption | omega))
           | ((with_reducible apply EvO.spd_yf); (case hp => first | assumption | omega))
           | (with_reducible apply EvO.nilT)
           | ((with_reducible apply EvO.gf); (case hW => exact rfl))
           | ((with_reducible apply EvO.gt0); (case hW => exact rfl); (case hx => first
              | ((with_reducible apply OpR.mv); (conv => lhs; whnf); try exact rfl)
              | exact OpR.r fun _ => rfl))
           | ((with_reducible apply EvO.u0); (case hx => first
              | ((with_reducible apply OpR.mv); (conv => lhs; whnf); try exact rfl)
              | ((with_reducible apply OpR.asg); (conv => lhs; whnf); try exact rfl)
              | ((with_reducible apply OpR.pk_t); (case hc => exact rfl); (case h => (conv => lhs; whnf); try exact rfl))
              | ((with_reducible apply OpR.pk_f); (case hc => exact rfl); (case h => (conv => lhs; whnf); try exact rfl))
              | ((with_reducible apply OpR.callX); (case hcal => exact rfl); (case hav => exact rfl); (case hx => exact rfl); (case hh => exact rfl); (case hm => exact rfl); (case hcl => exact hn); (case hr => exact rfl); (case hd => exact rfl); (case hq => kernel_rfl); (case hn => (first | exact ln0 | exact ln1 | exact ln2 | exact ln3 | exact ln4 | exact ln5 | exact ln6 | exact ln7 | exact ln8 | exact ln9 | exact ln10 | exact ln11 | exact ln12 | exact ln13 | exact ln14)); (case hv => (conv => lhs; whnf); try exact rfl); (case he => (repeat' (first | exact XFr.nil | (with_reducible apply XFr.row) | (with_reducible apply XFr.boxt) | ((apply XFr.box); (case hd => (repeat' (first | exact LEq.nil | ((with_reducible apply LEq.cons); (case h => (conv => lhs; whnf); try exact rfl)) | (apply LEq.cons; (case h => (conv => lhs; whnf); try exact rfl))))))))); (case hf => (repeat' (first | exact LEq.nil | ((with_reducible apply LEq.cons); (case h => (conv => lhs; whnf); try exact rfl)) | (apply LEq.cons; (case h => (conv => lhs; whnf); try exact rfl))))))
              | ((with_reducible apply OpR.len); (case ha => exact rfl); (case hy => exact rfl); (case ht => exact rfl); (case hs => exact rfl); (case hn => first | exact List.length_map _ | exact rfl))
              | ((with_reducible apply OpR.al); (case hs => exact fun _ => rfl); (case hz => exact rfl); (case hc => (repeat' (first | exact LEq.nil | ((with_reducible apply LEq.cons); (case h => (conv => lhs; whnf); try exact rfl)) | (apply LEq.cons; (case h => (conv => lhs; whnf); try exact rfl))))); (case hn => (first | exact ln0 | exact ln1 | exact ln2 | exact ln3 | exact ln4 | exact ln5 | exact ln6 | exact ln7 | exact ln8 | exact ln9 | exact ln10 | exact ln11 | exact ln12 | exact ln13 | exact ln14)); (case hf => (repeat' (first | exact LEq.nil | ((with_reducible apply LEq.cons); (case h => (conv => lhs; whnf); try exact rfl)) | (apply LEq.cons; (case h => (conv => lhs; whnf); try exact rfl))))))
              | ((with_reducible apply OpR.sto); (case hs => exact fun _ => rfl); (case ha => exact rfl); (case hy => exact rfl); (case ht => first | (with_reducible exact sz0) | (with_reducible exact sz1) | (with_reducible exact sz2) | (with_reducible exact sz3) | (with_reducible exact sz4) | (with_reducible exact sz5) | (with_reducible exact sz6) | (with_reducible exact sz7) | (with_reducible exact sz8) | (with_reducible exact sz9) | exact rfl); (case hv => exact rfl); (case ho => kernel_rfl); (case hb => exact rfl); (case hc => kernel_rfl); (case hd => (repeat' (first | exact LEq.nil | ((with_reducible apply LEq.cons); (case h => (conv => lhs; whnf); try exact rfl)) | (apply LEq.cons; (case h => (conv => lhs; whnf); try exact rfl))))); (case hf => (repeat' (first | exact LEq.nil | ((with_reducible apply LEq.cons); (case h => (conv => lhs; whnf); try exact rfl)) | (apply LEq.cons; (case h => (conv => lhs; whnf); try exact rfl))))))
              | exact OpR.r fun _ => rfl))
           | fail)
        all_goals first | exact ⟨.inr rfl, rfl⟩ | exact ⟨.inl rfl, rfl⟩
  by_cases c5 : ws.length = 5
  ·
    match ws, c5 with
    | [w0, w1, w2, w3, w4], _ =>
      have h7 : [w0, w1, w2, w3, w4].length = 5 := rfl
      by_cases ha : w0.data.toList = wNote
      ·
        have he := datas_eq ha
        have ht : tailC (datas [w0, w1, w2, w3, w4]) = ⟨0, 0, 0, [], 2, 0, 0, 0, 0, 0, 0, atoiV w2.data.toList, atoiV w4.data.toList⟩ := by unfold tailC; rw [if_neg (by simp [datas]), if_pos ⟨rfl, ha⟩]; rfl
        rw [ht]
        repeat' (first
           | (with_reducible apply EvK.seq)
           | (with_reducible apply EvK.block)
           | ((with_reducible apply EvK.text); (try case hm => exact rfl))
           | ((with_reducible apply EvK.drawn); (case hm => exact rfl))
           | (with_reducible apply EvK.ret)
           | (with_reducible apply thenK_r)
           | (with_reducible apply blockK_r)
           | ((with_reducible apply EvK.cond_t); (case hc => exact rfl))
           | ((with_reducible apply EvK.cond_f); (case hc => exact rfl))
           | ((with_reducible apply EvO.spd_t); (case hp => first | assumption | omega))
           | ((with_reducible apply EvO.spd_f); (case hp => first | assumption | omega))
           | ((with_reducible apply EvO.spd_yt); (case hp => first | assumption | omega))
           | (with_reducible apply EvO.nilT)
           | ((with_reducible apply EvO.gf); (case hW => exact rfl))
           | ((with_reducible apply EvO.gt0); (case hW => exact rfl); (case hx => first
              | ((with_reducible apply OpR.mv); (conv => lhs; whnf); try exact rfl)
              | exact OpR.r fun _ => rfl))
           | ((with_reducible apply EvO.u0); (case hx => first
              | ((with_reducible apply OpR.mv); (conv => lhs; whnf); try exact rfl)
              | ((with_reducible apply OpR.asg); (conv => lhs; whnf); try exact rfl)
              | ((with_reducible apply OpR.pk_t); (case hc => exact rfl); (case h => (conv => lhs; whnf); try exact rfl))
              | ((with_reducible apply OpR.pk_f); (case hc => exact rfl); (case h => (conv => lhs; whnf); try exact rfl))
              | ((with_reducible apply OpR.callX); (case hcal => exact rfl); (case hav => exact rfl); (case hx => exact rfl); (case hh => exact rfl); (case hm => exact rfl); (case hcl => exact hn); (case hr => exact rfl); (case hd => exact rfl); (case hq => kernel_rfl); (case hn => (first | exact ln0 | exact ln1 | exact ln2 | exact ln3 | exact ln4 | exact ln5 | exact ln6 | exact ln7 | exact ln8 | exact ln9 | exact ln10 | exact ln11 | exact ln12 | exact ln13 | exact ln14)); (case hv => (conv => lhs; whnf); try exact rfl); (case he => (repeat' (first | exact XFr.nil | (with_reducible apply XFr.row) | (with_reducible apply XFr.boxt) | ((apply XFr.box); (case hd => (repeat' (first | exact LEq.nil | ((with_reducible apply LEq.cons); (case h => (conv => lhs; whnf); try exact rfl)) | (apply LEq.cons; (case h => (conv => lhs; whnf); try exact rfl))))))))); (case hf => (repeat' (first | exact LEq.nil | ((with_reducible apply LEq.cons); (case h => (conv => lhs; whnf); try exact rfl)) | (apply LEq.cons; (case h => (conv => lhs; whnf); try exact rfl))))))
              | ((with_reducible apply OpR.len); (case ha => exact rfl); (case hy => exact rfl); (case ht => exact rfl); (case hs => exact rfl); (case hn => first | exact List.length_map _ | exact rfl))
              | ((with_reducible apply OpR.al); (case hs => exact fun _ => rfl); (case hz => exact rfl); (case hc => (repeat' (first | exact LEq.nil | ((with_reducible apply LEq.cons); (case h => (conv => lhs; whnf); try exact rfl)) | (apply LEq.cons; (case h => (conv => lhs; whnf); try exact rfl))))); (case hn => (first | exact ln0 | exact ln1 | exact ln2 | exact ln3 | exact ln4 | exact ln5 | exact ln6 | exact ln7 | exact ln8 | exact ln9 | exact ln10 | exact ln11 | exact ln12 | exact ln13 | exact ln14)); (case hf => (repeat' (first | exact LEq.nil | ((with_reducible apply LEq.cons); (case h => (conv => lhs; whnf); try exact rfl)) | (apply LEq.cons; (case h => (conv => lhs; whnf); try exact rfl))))))
              | ((with_reducible apply OpR.sto); (case hs => exact fun _ => rfl); (case ha => exact rfl); (case hy => exact rfl); (case ht => first | (with_reducible exact sz0) | (with_reducible exact sz1) | (with_reducible exact sz2) | (with_reducible exact sz3) | (with_reducible exact sz4) | (with_reducible exact sz5) | (with_reducible exact sz6) | (with_reducible exact sz7) | (with_reducible exact sz8) | (with_reducible exact sz9) | exact rfl); (case hv => exact rfl); (case ho => kernel_rfl); (case hb => exact rfl); (case hc => kernel_rfl); (case hd => (repeat' (first | exact LEq.nil | ((with_reducible apply LEq.cons); (case h => (conv => lhs; whnf); try exact rfl)) | (apply LEq.cons; (case h => (conv => lhs; whnf); try exact rfl))))); (case hf => (repeat' (first | exact LEq.nil | ((with_reducible apply LEq.cons); (case h => (conv => lhs; whnf); try exact rfl)) | (apply LEq.cons; (case h => (conv => lhs; whnf); try exact rfl))))))
              | exact OpR.r fun _ => rfl))
           | fail)
        exact ⟨.inr rfl, rfl⟩
      ·
        have he := datas_ne ha
        have ht : tailC (datas [w0, w1, w2, w3, w4]) = ⟨0, 0, 0, [], 0, 0, 0, 0, 0, 0, 0, 0, 0⟩ := by
          unfold tailC
          rw [if_neg (by simp [datas]), if_neg (fun h => ha h.2), if_neg (by simp [datas])]
        rw [ht]
        repeat' (first
           | (with_reducible apply EvK.seq)
           | (with_reducible apply EvK.block)
           | ((with_reducible apply EvK.text); (try case hm => exact rfl))
           | (with_reducible apply EvK.skip)
           | (with_reducible apply EvK.ret)
           | (with_reducible apply thenK_n)
           | (with_reducible apply blockK_n)
           | ((with_reducible apply EvK.cond_f); (case hc => exact rfl))
           | ((with_reducible apply EvO.spd_t); (case hp => first | assumption | omega))
           | ((with_reducible apply EvO.spd_f); (case hp => first | assumption | omega))
           | ((with_reducible apply EvO.spd_yf); (case hp => first | assumption | omega))
           | (with_reducible apply EvO.nilT)
           | ((with_reducible apply EvO.gf); (case hW => exact rfl))
           | ((with_reducible apply EvO.gt0); (case hW => exact rfl); (case hx => first
              | ((with_reducible apply OpR.mv); (conv => lhs; whnf); try exact rfl)
              | exact OpR.r fun _ => rfl))
           | ((with_reducible apply EvO.u0); (case hx => first
              | ((with_reducible apply OpR.mv); (conv => lhs; whnf); try exact rfl)
              | ((with_reducible apply OpR.asg); (conv => lhs; whnf); try exact rfl)
              | ((with_reducible apply OpR.pk_t); (case hc => exact rfl); (case h => (conv => lhs; whnf); try exact rfl))
              | ((with_reducible apply OpR.pk_f); (case hc => exact rfl); (case h => (conv => lhs; whnf); try exact rfl))
              | ((with_reducible apply OpR.callX); (case hcal => exact rfl); (case hav => exact rfl); (case hx => exact rfl); (case hh => exact rfl); (case hm => exact rfl); (case hcl => exact hn); (case hr => exact rfl); (case hd => exact rfl); (case hq => kernel_rfl); (case hn => (first | exact ln0 | exact ln1 | exact ln2 | exact ln3 | exact ln4 | exact ln5 | exact ln6 | exact ln7 | exact ln8 | exact ln9 | exact ln10 | exact ln11 | exact ln12 | exact ln13 | exact ln14)); (case hv => (conv => lhs; whnf); try exact rfl); (case he => (repeat' (first | exact XFr.nil | (with_reducible apply XFr.row) | (with_reducible apply XFr.boxt) | ((apply XFr.box); (case hd => (repeat' (first | exact LEq.nil | ((with_reducible apply LEq.cons); (case h => (conv => lhs; whnf); try exact rfl)) | (apply LEq.cons; (case h => (conv => lhs; whnf); try exact rfl))))))))); (case hf => (repeat' (first | exact LEq.nil | ((with_reducible apply LEq.cons); (case h => (conv => lhs; whnf); try exact rfl)) | (apply LEq.cons; (case h => (conv => lhs; whnf); try exact rfl))))))
              | ((with_reducible apply OpR.len); (case ha => exact rfl); (case hy => exact rfl); (case ht => exact rfl); (case hs => exact rfl); (case hn => first | exact List.length_map _ | exact rfl))
              | ((with_reducible apply OpR.al); (case hs => exact fun _ => rfl); (case hz => exact rfl); (case hc => (repeat' (first | exact LEq.nil | ((with_reducible apply LEq.cons); (case h => (conv => lhs; whnf); try exact rfl)) | (apply LEq.cons; (case h => (conv => lhs; whnf); try exact rfl))))); (case hn => (first | exact ln0 | exact ln1 | exact ln2 | exact ln3 | exact ln4 | exact ln5 | exact ln6 | exact ln7 | exact ln8 | exact ln9 | exact ln10 | exact ln11 | exact ln12 | exact ln13 | exact ln14)); (case hf => (repeat' (first | exact LEq.nil | ((with_reducible apply LEq.cons); (case h => (conv => lhs; whnf); try exact rfl)) | (apply LEq.cons; (case h => (conv => lhs; whnf); try exact rfl))))))
              | ((with_reducible apply OpR.sto); (case hs => exact fun _ => rfl); (case ha => exact rfl); (case hy => exact rfl); (case ht => first | (with_reducible exact sz0) | (with_reducible exact sz1) | (with_reducible exact sz2) | (with_reducible exact sz3) | (with_reducible exact sz4) | (with_reducible exact sz5) | (with_reducible exact sz6) | (with_reducible exact sz7) | (with_reducible exact sz8) | (with_reducible exact sz9) | exact rfl); (case hv => exact rfl); (case ho => kernel_rfl); (case hb => exact rfl); (case hc => kernel_rfl); (case hd => (repeat' (first | exact LEq.nil | ((with_reducible apply LEq.cons); (case h => (conv => lhs; whnf); try exact rfl)) | (apply LEq.cons; (case h => (conv => lhs; whnf); try exact rfl))))); (case hf => (repeat' (first | exact LEq.nil | ((with_reducible apply LEq.cons); (case h => (conv => lhs; whnf); try exact rfl)) | (apply LEq.cons; (case h => (conv => lhs; whnf); try exact rfl))))))
              | exact OpR.r fun _ => rfl))
           | fail)
        all_goals first | exact ⟨.inr rfl, rfl⟩ | exact ⟨.inl rfl, rfl⟩
  by_cases c7 : ws.length = 7
  ·
    match ws, c7 with
    | [w0, w1, w2, w3, w4, w5, w6], _ =>
      have h7 : [w0, w1, w2, w3, w4, w5, w6].length = 7 := rfl
      by_cases ha : w0.data.toList = wGive
      ·
        have he := datas_eq ha
        by_cases hb : w1.data.toList = wShare
        ·
          have hf := datas_eq hb
          have ht : tailC (datas [w0, w1, w2, w3, w4, w5, w6]) = ⟨0, 0, 0, [], 1, 0, 1, atoiV w2.data.toList, atoiV w3.data.toList, atoiV w4.data.toList, atoiV w6.data.toList, 0, 0⟩ := by
            unfold tailC
            have : (datas [w0, w1, w2, w3, w4, w5, w6]).getD 1 [] = wShare := hb
            rw [if_neg (by simp [datas]), if_neg (by simp [datas]), if_pos ⟨rfl, ha⟩, if_pos this]; rfl
          rw [ht]
          repeat' (first
             | (with_reducible apply EvK.seq)
             | (with_reducible apply EvK.block)
             | ((with_reducible apply EvK.text); (try case hm => exact rfl))
             | ((with_reducible apply EvK.drawnF); (case hm => exact rfl))
             | (with_reducible apply EvK.ret)
             | (with_reducible apply thenK_r)
             | (with_reducible apply blockK_r)
             | ((with_reducible apply EvK.cond_t); (case hc => exact rfl))
             | ((with_reducible apply EvK.cond_f); (case hc => exact rfl))
             | ((with_reducible apply EvO.spd_t); (case hp => first | assumption | omega))
             | ((with_reducible apply EvO.spd_f); (case hp => first | assumption | omega))
             | ((with_reducible apply EvO.spd_yt); (case hp => first | assumption | omega))
             | (with_reducible apply EvO.nilT)
             | ((with_reducible apply EvO.gf); (case hW => exact rfl))
             | (with_reducible apply EvOF.nilT)
             | ((with_reducible apply EvOF.u); (case hfl => kernel_rfl); (case hx => first
                | ((with_reducible apply OpR.mv); (conv => lhs; whnf); try exact rfl)
                | ((with_reducible apply OpR.al); (case hs => exact fun _ => rfl); (case hz => exact rfl); (case hc => (repeat' (first | exact LEq.nil | ((with_reducible apply LEq.cons); (case h => (conv => lhs; whnf); try exact rfl)) | (apply LEq.cons; (case h => (conv => lhs; whnf); try exact rfl))))); (case hn => (first | exact ln0 | exact ln1 | exact ln2 | exact ln3 | exact ln4 | exact ln5 | exact ln6 | exact ln7 | exact ln8 | exact ln9 | exact ln10 | exact ln11 | exact ln12 | exact ln13 | exact ln14)); (case hf => (repeat' (first | exact LEq.nil | ((with_reducible apply LEq.cons); (case h => (conv => lhs; whnf); try exact rfl)) | (apply LEq.cons; (case h => (conv => lhs; whnf); try exact rfl))))))
                | ((with_reducible apply OpR.sto); (case hs => exact fun _ => rfl); (case ha => exact rfl); (case hy => exact rfl); (case ht => first | (with_reducible exact sz0) | (with_reducible exact sz1) | (with_reducible exact sz2) | (with_reducible exact sz3) | (with_reducible exact sz4) | (with_reducible exact sz5) | (with_reducible exact sz6) | (with_reducible exact sz7) | (with_reducible exact sz8) | (with_reducible exact sz9) | exact rfl); (case hv => exact rfl); (case ho => kernel_rfl); (case hb => exact rfl); (case hc => kernel_rfl); (case hd => (repeat' (first | exact LEq.nil | ((with_reducible apply LEq.cons); (case h => (conv => lhs; whnf); try exact rfl)) | (apply LEq.cons; (case h => (conv => lhs; whnf); try exact rfl))))); (case hf => (repeat' (first | exact LEq.nil | ((with_reducible apply LEq.cons); (case h => (conv => lhs; whnf); try exact rfl)) | (apply LEq.cons; (case h => (conv => lhs; whnf); try exact rfl))))))
                | exact OpR.r fun _ => rfl))
             | ((with_reducible apply EvO.gt0); (case hW => exact rfl); (case hx => first
                | ((with_reducible apply OpR.mv); (conv => lhs; whnf); try exact rfl)
                | exact OpR.r fun _ => rfl))
             | ((with_reducible apply EvO.u0); (case hx => first
                | ((with_reducible apply OpR.mv); (conv => lhs; whnf); try exact rfl)
                | ((with_reducible apply OpR.asg); (conv => lhs; whnf); try exact rfl)
                | ((with_reducible apply OpR.pk_t); (case hc => exact rfl); (case h => (conv => lhs; whnf); try exact rfl))
                | ((with_reducible apply OpR.pk_f); (case hc => exact rfl); (case h => (conv => lhs; whnf); try exact rfl))
                | ((with_reducible apply OpR.callX); (case hcal => exact rfl); (case hav => exact rfl); (case hx => exact rfl); (case hh => exact rfl); (case hm => exact rfl); (case hcl => exact hn); (case hr => exact rfl); (case hd => exact rfl); (case hq => kernel_rfl); (case hn => (first | exact ln0 | exact ln1 | exact ln2 | exact ln3 | exact ln4 | exact ln5 | exact ln6 | exact ln7 | exact ln8 | exact ln9 | exact ln10 | exact ln11 | exact ln12 | exact ln13 | exact ln14)); (case hv => (conv => lhs; whnf); try exact rfl); (case he => (repeat' (first | exact XFr.nil | (with_reducible apply XFr.row) | (with_reducible apply XFr.boxt) | ((apply XFr.box); (case hd => (repeat' (first | exact LEq.nil | ((with_reducible apply LEq.cons); (case h => (conv => lhs; whnf); try exact rfl)) | (apply LEq.cons; (case h => (conv => lhs; whnf); try exact rfl))))))))); (case hf => (repeat' (first | exact LEq.nil | ((with_reducible apply LEq.cons); (case h => (conv => lhs; whnf); try exact rfl)) | (apply LEq.cons; (case h => (conv => lhs; whnf); try exact rfl))))))
                | ((with_reducible apply OpR.len); (case ha => exact rfl); (case hy => exact rfl); (case ht => exact rfl); (case hs => exact rfl); (case hn => first | exact List.length_map _ | exact rfl))
                | ((with_reducible apply OpR.fal); (case hy => exact rfl); (case ho => exact rfl); (case hn => (conv => lhs; whnf); try exact rfl))
                | ((with_reducible apply OpR.al); (case hs => exact fun _ => rfl); (case hz => exact rfl); (case hc => (repeat' (first | exact LEq.nil | ((with_reducible apply LEq.cons); (case h => (conv => lhs; whnf); try exact rfl)) | (apply LEq.cons; (case h => (conv => lhs; whnf); try exact rfl))))); (case hn => (first | exact ln0 | exact ln1 | exact ln2 | exact ln3 | exact ln4 | exact ln5 | exact ln6 | exact ln7 | exact ln8 | exact ln9 | exact ln10 | exact ln11 | exact ln12 | exact ln13 | exact ln14)); (case hf => (repeat' (first | exact LEq.nil | ((with_reducible apply LEq.cons); (case h => (conv => lhs; whnf); try exact rfl)) | (apply LEq.cons; (case h => (conv => lhs; whnf); try exact rfl))))))
                | ((with_reducible apply OpR.sto); (case hs => exact fun _ => rfl); (case ha => exact rfl); (case hy => exact rfl); (case ht => first | (with_reducible exact sz0) | (with_reducible exact sz1) | (with_reducible exact sz2) | (with_reducible exact sz3) | (with_reducible exact sz4) | (with_reducible exact sz5) | (with_reducible exact sz6) | (with_reducible exact sz7) | (with_reducible exact sz8) | (with_reducible exact sz9) | exact rfl); (case hv => exact rfl); (case ho => kernel_rfl); (case hb => exact rfl); (case hc => kernel_rfl); (case hd => (repeat' (first | exact LEq.nil | ((with_reducible apply LEq.cons); (case h => (conv => lhs; whnf); try exact rfl)) | (apply LEq.cons; (case h => (conv => lhs; whnf); try exact rfl))))); (case hf => (repeat' (first | exact LEq.nil | ((with_reducible apply LEq.cons); (case h => (conv => lhs; whnf); try exact rfl)) | (apply LEq.cons; (case h => (conv => lhs; whnf); try exact rfl))))))
                | ((with_reducible apply OpR.lda); (case hy => exact rfl); (case ht => first | (with_reducible exact sz0) | (with_reducible exact sz1) | (with_reducible exact sz2) | (with_reducible exact sz3) | (with_reducible exact sz4) | (with_reducible exact sz5) | (with_reducible exact sz6) | (with_reducible exact sz7) | (with_reducible exact sz8) | (with_reducible exact sz9)); (case hb => exact rfl); (case hl => kernel_rfl); (case hv => (repeat' (first | exact LEq.nil | ((with_reducible apply LEq.cons); (case h => (conv => lhs; whnf); try exact rfl)) | (apply LEq.cons; (case h => (conv => lhs; whnf); try exact rfl))))); (case hx => (conv => lhs; whnf); try exact rfl))
                | exact OpR.r fun _ => rfl))
             | fail)
          exact ⟨.inr rfl, rfl⟩
        ·
          have hf := datas_ne hb
          have ht : tailC (datas [w0, w1, w2, w3, w4, w5, w6]) = ⟨0, 0, 0, [], 1, 0, 0, atoiV w2.data.toList, atoiV w3.data.toList, atoiV w4.data.toList, atoiV w6.data.toList, 0, 0⟩ := by
            unfold tailC
            have : ¬ (datas [w0, w1, w2, w3, w4, w5, w6]).getD 1 [] = wShare := hb
            rw [if_neg (by simp [datas]), if_neg (by simp [datas]), if_pos ⟨rfl, ha⟩, if_neg this]; rfl
          rw [ht]
          repeat' (first
             | (with_reducible apply EvK.seq)
             | (with_reducible apply EvK.block)
             | ((with_reducible apply EvK.text); (try case hm => exact rfl))
             | ((with_reducible apply EvK.drawnF); (case hm => exact rfl))
             | (with_reducible apply EvK.skip)
             | (with_reducible apply EvK.ret)
             | (with_reducible apply thenK_n)
             | (with_reducible apply thenK_r)
             | (with_reducible apply blockK_r)
             | ((with_reducible apply EvK.cond_t); (case hc => exact rfl))
             | ((with_reducible apply EvK.cond_f); (case hc => exact rfl))
             | ((with_reducible apply EvO.spd_t); (case hp => first | assumption | omega))
             | ((with_reducible apply EvO.spd_f); (case hp => first | assumption | omega))
             | ((with_reducible apply EvO.spd_yt); (case hp => first | assumption | omega))
             | (with_reducible apply EvO.nilT)
             | ((with_reducible apply EvO.gf); (case hW => exact rfl))
             | (with_reducible apply EvOF.nilT)
             | ((with_reducible apply EvOF.u); (case hfl => kernel_rfl); (case hx => first
                | ((with_reducible apply OpR.mv); (conv => lhs; whnf); try exact rfl)
                | ((with_reducible apply OpR.al); (case hs => exact fun _ => rfl); (case hz => exact rfl); (case hc => (repeat' (first | exact LEq.nil | ((with_reducible apply LEq.cons); (case h => (conv => lhs; whnf); try exact rfl)) | (apply LEq.cons; (case h => (conv => lhs; whnf); try exact rfl))))); (case hn => (first | exact ln0 | exact ln1 | exact ln2 | exact ln3 | exact ln4 | exact ln5 | exact ln6 | exact ln7 | exact ln8 | exact ln9 | exact ln10 | exact ln11 | exact ln12 | exact ln13 | exact ln14)); (case hf => (repeat' (first | exact LEq.nil | ((with_reducible apply LEq.cons); (case h => (conv => lhs; whnf); try exact rfl)) | (apply LEq.cons; (case h => (conv => lhs; whnf); try exact rfl))))))
                | ((with_reducible apply OpR.sto); (case hs => exact fun _ => rfl); (case ha => exact rfl); (case hy => exact rfl); (case ht => first | (with_reducible exact sz0) | (with_reducible exact sz1) | (with_reducible exact sz2) | (with_reducible exact sz3) | (with_reducible exact sz4) | (with_reducible exact sz5) | (with_reducible exact sz6) | (with_reducible exact sz7) | (with_reducible exact sz8) | (with_reducible exact sz9) | exact rfl); (case hv => exact rfl); (case ho => kernel_rfl); (case hb => exact rfl); (case hc => kernel_rfl); (case hd => (repeat' (first | exact LEq.nil | ((with_reducible apply LEq.cons); (case h => (conv => lhs; whnf); try exact rfl)) | (apply LEq.cons; (case h => (conv => lhs; whnf); try exact rfl))))); (case hf => (repeat' (first | exact LEq.nil | ((with_reducible apply LEq.cons); (case h => (conv => lhs; whnf); try exact rfl)) | (apply LEq.cons; (case h => (conv => lhs; whnf); try exact rfl))))))
                | exact OpR.r fun _ => rfl))
             | ((with_reducible apply EvO.gt0); (case hW => exact rfl); (case hx => first
                | ((with_reducible apply OpR.mv); (conv => lhs; whnf); try exact rfl)
                | exact OpR.r fun _ => rfl))
             | ((with_reducible apply EvO.u0); (case hx => first
                | ((with_reducible apply OpR.mv); (conv => lhs; whnf); try exact rfl)
                | ((with_reducible apply OpR.asg); (conv => lhs; whnf); try exact rfl)
                | ((with_reducible apply OpR.pk_t); (case hc => exact rfl); (case h => (conv => lhs; whnf); try exact rfl))
                | ((with_reducible apply OpR.pk_f); (case hc => exact rfl); (case h => (conv => lhs; whnf); try exact rfl))
                | ((with_reducible apply OpR.callX); (case hcal => exact rfl); (case hav => exact rfl); (case hx => exact rfl); (case hh => exact rfl); (case hm => exact rfl); (case hcl => exact hn); (case hr => exact rfl); (case hd => exact rfl); (case hq => kernel_rfl); (case hn => (first | exact ln0 | exact ln1 | exact ln2 | exact ln3 | exact ln4 | exact ln5 | exact ln6 | exact ln7 | exact ln8 | exact ln9 | exact ln10 | exact ln11 | exact ln12 | exact ln13 | exact ln14)); (case hv => (conv => lhs; whnf); try exact rfl); (case he => (repeat' (first | exact XFr.nil | (with_reducible apply XFr.row) | (with_reducible apply XFr.boxt) | ((apply XFr.box); (case hd => (repeat' (first | exact LEq.nil | ((with_reducible apply LEq.cons); (case h => (conv => lhs; whnf); try exact rfl)) | (apply LEq.cons; (case h => (conv => lhs; whnf); try exact rfl))))))))); (case hf => (repeat' (first | exact LEq.nil | ((with_reducible apply LEq.cons); (case h => (conv => lhs; whnf); try exact rfl)) | (apply LEq.cons; (case h => (conv => lhs; whnf); try exact rfl))))))
                | ((with_reducible apply OpR.len); (case ha => exact rfl); (case hy => exact rfl); (case ht => exact rfl); (case hs => exact rfl); (case hn => first | exact List.length_map _ | exact rfl))
                | ((with_reducible apply OpR.al); (case hs => exact fun _ => rfl); (case hz => exact rfl); (case hc => (repeat' (first | exact LEq.nil | ((with_reducible apply LEq.cons); (case h => (conv => lhs; whnf); try exact rfl)) | (apply LEq.cons; (case h => (conv => lhs; whnf); try exact rfl))))); (case hn => (first | exact ln0 | exact ln1 | exact ln2 | exact ln3 | exact ln4 | exact ln5 | exact ln6 | exact ln7 | exact ln8 | exact ln9 | exact ln10 | exact ln11 | exact ln12 | exact ln13 | exact ln14)); (case hf => (repeat' (first | exact LEq.nil | ((with_reducible apply LEq.cons); (case h => (conv => lhs; whnf); try exact rfl)) | (apply LEq.cons; (case h => (conv => lhs; whnf); try exact rfl))))))
                | ((with_reducible apply OpR.sto); (case hs => exact fun _ => rfl); (case ha => exact rfl); (case hy => exact rfl); (case ht => first | (with_reducible exact sz0) | (with_reducible exact sz1) | (with_reducible exact sz2) | (with_reducible exact sz3) | (with_reducible exact sz4) | (with_reducible exact sz5) | (with_reducible exact sz6) | (with_reducible exact sz7) | (with_reducible exact sz8) | (with_reducible exact sz9) | exact rfl); (case hv => exact rfl); (case ho => kernel_rfl); (case hb => exact rfl); (case hc => kernel_rfl); (case hd => (repeat' (first | exact LEq.nil | ((with_reducible apply LEq.cons); (case h => (conv => lhs; whnf); try exact rfl)) | (apply LEq.cons; (case h => (conv => lhs; whnf); try exact rfl))))); (case hf => (repeat' (first | exact LEq.nil | ((with_reducible apply LEq.cons); (case h => (conv => lhs; whnf); try exact rfl)) | (apply LEq.cons; (case h => (conv => lhs; whnf); try exact rfl))))))
                | ((with_reducible apply OpR.lda); (case hy => exact rfl); (case ht => first | (with_reducible exact sz0) | (with_reducible exact sz1) | (with_reducible exact sz2) | (with_reducible exact sz3) | (with_reducible exact sz4) | (with_reducible exact sz5) | (with_reducible exact sz6) | (with_reducible exact sz7) | (with_reducible exact sz8) | (with_reducible exact sz9)); (case hb => exact rfl); (case hl => kernel_rfl); (case hv => (repeat' (first | exact LEq.nil | ((with_reducible apply LEq.cons); (case h => (conv => lhs; whnf); try exact rfl)) | (apply LEq.cons; (case h => (conv => lhs; whnf); try exact rfl))))); (case hx => (conv => lhs; whnf); try exact rfl))
                | exact OpR.r fun _ => rfl))
             | fail)
          exact ⟨.inr rfl, rfl⟩
      ·
        have he := datas_ne ha
        have ht : tailC (datas [w0, w1, w2, w3, w4, w5, w6]) = ⟨0, 0, 0, [], 0, 0, 0, 0, 0, 0, 0, 0, 0⟩ := by
          unfold tailC
          rw [if_neg (by simp [datas]), if_neg (by simp [datas]), if_neg (fun h => ha h.2)]
        rw [ht]
        repeat' (first
           | (with_reducible apply EvK.seq)
           | (with_reducible apply EvK.block)
           | ((with_reducible apply EvK.text); (try case hm => exact rfl))
           | (with_reducible apply EvK.skip)
           | (with_reducible apply EvK.ret)
           | (with_reducible apply thenK_n)
           | (with_reducible apply blockK_n)
           | ((with_reducible apply EvK.cond_f); (case hc => exact rfl))
           | ((with_reducible apply EvO.spd_t); (case hp => first | assumption | omega))
           | ((with_reducible apply EvO.spd_f); (case hp => first | assumption | omega))
           | ((with_reducible apply EvO.spd_yf); (case hp => first | assumption | omega))
           | (with_reducible apply EvO.nilT)
           | ((with_reducible apply EvO.gf); (case hW => exact rfl))
           | ((with_reducible apply EvO.gt0); (case hW => exact rfl); (case hx => first
              | ((with_reducible apply OpR.mv); (conv => lhs; whnf); try exact rfl)
              | exact OpR.r fun _ => rfl))
           | ((with_reducible apply EvO.u0); (case hx => first
              | ((with_reducible apply OpR.mv); (conv => lhs; whnf); try exact rfl)
              | ((with_reducible apply OpR.asg); (conv => lhs; whnf); try exact rfl)
              | ((with_reducible apply OpR.pk_t); (case hc => exact rfl); (case h => (conv => lhs; whnf); try exact rfl))
              | ((with_reducible apply OpR.pk_f); (case hc => exact rfl); (case h => (conv => lhs; whnf); try exact rfl))
              | ((with_reducible apply OpR.callX); (case hcal => exact rfl); (case hav => exact rfl); (case hx => exact rfl); (case hh => exact rfl); (case hm => exact rfl); (case hcl => exact hn); (case hr => exact rfl); (case hd => exact rfl); (case hq => kernel_rfl); (case hn => (first | exact ln0 | exact ln1 | exact ln2 | exact ln3 | exact ln4 | exact ln5 | exact ln6 | exact ln7 | exact ln8 | exact ln9 | exact ln10 | exact ln11 | exact ln12 | exact ln13 | exact ln14)); (case hv => (conv => lhs; whnf); try exact rfl); (case he => (repeat' (first | exact XFr.nil | (with_reducible apply XFr.row) | (with_reducible apply XFr.boxt) | ((apply XFr.box); (case hd => (repeat' (first | exact LEq.nil | ((with_reducible apply LEq.cons); (case h => (conv => lhs; whnf); try exact rfl)) | (apply LEq.cons; (case h => (conv => lhs; whnf); try exact rfl))))))))); (case hf => (repeat' (first | exact LEq.nil | ((with_reducible apply LEq.cons); (case h => (conv => lhs; whnf); try exact rfl)) | (apply LEq.cons; (case h => (conv => lhs; whnf); try exact rfl))))))
              | ((with_reducible apply OpR.len); (case ha => exact rfl); (case hy => exact rfl); (case ht => exact rfl); (case hs => exact rfl); (case hn => first | exact List.length_map _ | exact rfl))
              | ((with_reducible apply OpR.al); (case hs => exact fun _ => rfl); (case hz => exact rfl); (case hc => (repeat' (first | exact LEq.nil | ((with_reducible apply LEq.cons); (case h => (conv => lhs; whnf); try exact rfl)) | (apply LEq.cons; (case h => (conv => lhs; whnf); try exact rfl))))); (case hn => (first | exact ln0 | exact ln1 | exact ln2 | exact ln3 | exact ln4 | exact ln5 | exact ln6 | exact ln7 | exact ln8 | exact ln9 | exact ln10 | exact ln11 | exact ln12 | exact ln13 | exact ln14)); (case hf => (repeat' (first | exact LEq.nil | ((with_reducible apply LEq.cons); (case h => (conv => lhs; whnf); try exact rfl)) | (apply LEq.cons; (case h => (conv => lhs; whnf); try exact rfl))))))
              | ((with_reducible apply OpR.sto); (case hs => exact fun _ => rfl); (case ha => exact rfl); (case hy => exact rfl); (case ht => first | (with_reducible exact sz0) | (with_reducible exact sz1) | (with_reducible exact sz2) | (with_reducible exact sz3) | (with_reducible exact sz4) | (with_reducible exact sz5) | (with_reducible exact sz6) | (with_reducible exact sz7) | (with_reducible exact sz8) | (with_reducible exact sz9) | exact rfl); (case hv => exact rfl); (case ho => kernel_rfl); (case hb => exact rfl); (case hc => kernel_rfl); (case hd => (repeat' (first | exact LEq.nil | ((with_reducible apply LEq.cons); (case h => (conv => lhs; whnf); try exact rfl)) | (apply LEq.cons; (case h => (conv => lhs; whnf); try exact rfl))))); (case hf => (repeat' (first | exact LEq.nil | ((with_reducible apply LEq.cons); (case h => (conv => lhs; whnf); try exact rfl)) | (apply LEq.cons; (case h => (conv => lhs; whnf); try exact rfl))))))
              | exact OpR.r fun _ => rfl))
           | fail)
        all_goals first | exact ⟨.inr rfl, rfl⟩ | exact ⟨.inl rfl, rfl⟩
  ·
    have ht : tailC (datas ws) = ⟨0, 0, 0, [], 0, 0, 0, 0, 0, 0, 0, 0, 0⟩ := by
      unfold tailC
      rw [if_neg (by simp [datas]; omega), if_neg (by simp [datas]; omega), if_neg (by simp [datas]; omega)]
    rw [ht]
    repeat' (first
       | (with_reducible apply EvK.seq)
       | (with_reducible apply EvK.block)
       | ((with_reducible apply EvK.text); (try case hm => exact rfl))
       | (with_reducible apply EvK.skip)
       | (with_reducible apply EvK.ret)
       | (with_reducible apply thenK_n)
       | (with_reducible apply blockK_n)
       | ((with_reducible apply EvK.cond_f); (case hc => exact rfl))
       | ((with_reducible apply EvO.spd_f); (case hp => first | assumption | omega))
       | (with_reducible apply EvO.nilT)
       | ((with_reducible apply EvO.gf); (case hW => exact rfl))
       | ((with_reducible apply EvO.u0); (case hx => first
          | ((with_reducible apply OpR.mv); (conv => lhs; whnf); try exact rfl)
          | ((with_reducible apply OpR.asg); (conv => lhs; whnf); try exact rfl)
          | ((with_reducible apply OpR.pk_f); (case hc => exact rfl); (case h => (conv => lhs; whnf); try exact rfl))
          | ((with_reducible apply OpR.callX); (case hcal => exact rfl); (case hav => exact rfl); (case hx => exact rfl); (case hh => exact rfl); (case hm => exact rfl); (case hcl => exact hn); (case hr => exact rfl); (case hd => exact rfl); (case hq => kernel_rfl); (case hn => (first | exact ln0 | exact ln1 | exact ln2 | exact ln3 | exact ln4 | exact ln5 | exact ln6 | exact ln7 | exact ln8 | exact ln9 | exact ln10 | exact ln11 | exact ln12 | exact ln13 | exact ln14)); (case hv => (conv => lhs; whnf); try exact rfl); (case he => (repeat' (first | exact XFr.nil | (with_reducible apply XFr.row) | (with_reducible apply XFr.boxt) | ((apply XFr.box); (case hd => (repeat' (first | exact LEq.nil | ((with_reducible apply LEq.cons); (case h => (conv => lhs; whnf); try exact rfl)) | (apply LEq.cons; (case h => (conv => lhs; whnf); try exact rfl))))))))); (case hf => (repeat' (first | exact LEq.nil | ((with_reducible apply LEq.cons); (case h => (conv => lhs; whnf); try exact rfl)) | (apply LEq.cons; (case h => (conv => lhs; whnf); try exact rfl))))))
          | ((with_reducible apply OpR.len); (case ha => exact rfl); (case hy => exact rfl); (case ht => exact rfl); (case hs => exact rfl); (case hn => first | exact List.length_map _ | exact rfl))
          | ((with_reducible apply OpR.al); (case hs => exact fun _ => rfl); (case hz => exact rfl); (case hc => (repeat' (first | exact LEq.nil | ((with_reducible apply LEq.cons); (case h => (conv => lhs; whnf); try exact rfl)) | (apply LEq.cons; (case h => (conv => lhs; whnf); try exact rfl))))); (case hn => (first | exact ln0 | exact ln1 | exact ln2 | exact ln3 | exact ln4 | exact ln5 | exact ln6 | exact ln7 | exact ln8 | exact ln9 | exact ln10 | exact ln11 | exact ln12 | exact ln13 | exact ln14)); (case hf => (repeat' (first | exact LEq.nil | ((with_reducible apply LEq.cons); (case h => (conv => lhs; whnf); try exact rfl)) | (apply LEq.cons; (case h => (conv => lhs; whnf); try exact rfl))))))
          | ((with_reducible apply OpR.sto); (case hs => exact fun _ => rfl); (case ha => exact rfl); (case hy => exact rfl); (case ht => first | (with_reducible exact sz0) | (with_reducible exact sz1) | (with_reducible exact sz2) | (with_reducible exact sz3) | (with_reducible exact sz4) | (with_reducible exact sz5) | (with_reducible exact sz6) | (with_reducible exact sz7) | (with_reducible exact sz8) | (with_reducible exact sz9) | exact rfl); (case hv => exact rfl); (case ho => kernel_rfl); (case hb => exact rfl); (case hc => kernel_rfl); (case hd => (repeat' (first | exact LEq.nil | ((with_reducible apply LEq.cons); (case h => (conv => lhs; whnf); try exact rfl)) | (apply LEq.cons; (case h => (conv => lhs; whnf); try exact rfl))))); (case hf => (repeat' (first | exact LEq.nil | ((with_reducible apply LEq.cons); (case h => (conv => lhs; whnf); try exact rfl)) | (apply LEq.cons; (case h => (conv => lhs; whnf); try exact rfl))))))
          | exact OpR.r fun _ => rfl))
       | fail)
    all_goals first | exact ⟨.inr rfl, rfl⟩ | exact ⟨.inl rfl, rfl⟩
end Go.Proofs.YtgbfedgghjcdcaaGreatDoor
