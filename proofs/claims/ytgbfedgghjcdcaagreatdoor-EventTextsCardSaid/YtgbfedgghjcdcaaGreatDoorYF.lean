/- Law 52: the reference's reading of a clock's text; SessionTokens. No condition. -/
import Derived.Test.YtgbfedgghjcdcaaGreatDoorYE
namespace Go.Proofs.YtgbfedgghjcdcaaGreatDoor
set_option linter.unusedSimpArgs false
set_option linter.unusedVariables false
set_option linter.unusedSectionVars false
open Go.RowKit
set_option maxRecDepth 100000
set_option maxHeartbeats 8000000

def parR : Option (List Int) → SV × Fr
  | none => (.tup [.nil, .t (.int .i64 3)], [])
  | some c => (.tup [.ls 0, .t (.int .i64 0)], [.row false false 1 (intsE c)])
theorem refGo_eq (f : Nat) (xs : List Int) (s : List UInt8) : refGo (f + 1) xs s =
    if (numR s).2 = 0 then none
    else if s.drop (numR s).2 = [93] ∧ validB (xs ++ [(numR s).1]) = true then some (xs ++ [(numR s).1])
    else match s.drop (numR s).2 with
      | [] => none
      | b :: r => if b = 32 then refGo f (xs ++ [(numR s).1]) r else none := rfl
theorem numR_le (s : List UInt8) : (numR s).2 ≤ s.length := by
  unfold numR
  split
  · exact nlead_le s
  · exact Nat.zero_le _
theorem u8_ne {b : UInt8} {n : UInt8} (h : ¬ b = n) : ¬ (b.toNat : Int) = (n.toNat : Int) := fun e => h (UInt8.toNat_inj.1 (by omega))
theorem rparse_c {l : List UInt8} (hl : l.length ≤ 900) : Cl cfg 65 [.t (.str (bs l))] [] (parR (refP l)).1 (parR (refP l)).2 := by
  refine Cl.of_body rfl Tryz.func65 rfl rfl rfl ?_
  cases l with
  | nil =>
    have he : bs [] = ⟨#[]⟩ := rfl
    have hp : refP [] = none := rfl
    rw [hp]
    repeat' (first
       | (with_reducible apply EvK.seq)
       | ((with_reducible apply EvK.text); (try case hm => exact rfl))
       | (with_reducible apply EvK.ret)
       | (with_reducible apply thenK_r)
       | ((with_reducible apply EvK.cond_t); (case hc => exact rfl))
       | ((with_reducible apply EvO.spd_t); (case hp => first | assumption | omega))
       | (with_reducible apply EvO.nilT)
       | ((with_reducible apply EvO.gf); (case hW => exact rfl))
       | ((with_reducible apply EvO.u0); (case hx => first
          | ((with_reducible apply OpR.mv); (conv => lhs; whnf); try exact rfl)
          | ((with_reducible apply OpR.asg); (conv => lhs; whnf); try exact rfl)
          | ((with_reducible apply OpR.pk_t); (case hc => exact rfl); (case h => (conv => lhs; whnf); try exact rfl))
          | exact OpR.r fun _ => rfl))
       | fail)
    exact ⟨.inr rfl, rfl⟩
  | cons b r =>
    have hne : ¬ bs (b :: r) = ⟨#[]⟩ := fun h => by have := bs_inj (y := []) h; cases this
    have hb0 : (b :: r)[0]? = some b := rfl
    have hrl : r.length + 1 ≤ 900 := by simpa using hl
    have hsz : (bs (b :: r)).size = r.length + 1 := by rw [bs_size]; rfl
    have hsl : (bs (b :: r)).extract 1 (bs (b :: r)).size = bs r := bs_drop _ 1
    by_cases hb : b = 91
    ·
      subst hb
      have h91 : (((91 : UInt8).toNat : Nat) : Int) = 91 := rfl
      repeat' (first
         | (with_reducible apply EvK.seq)
         | (with_reducible apply EvK.block)
         | ((with_reducible apply EvK.text); (try case hm => exact rfl))
         | (with_reducible apply EvK.skip)
         | (with_reducible apply thenK_n)
         | ((with_reducible apply EvK.cond_f); (case hc => exact rfl))
         | ((with_reducible apply EvO.spd_f); (case hp => first | assumption | omega))
         | ((with_reducible apply EvO.spn_yf); (case hp => first | assumption | omega))
         | (with_reducible apply EvO.nilT)
         | ((with_reducible apply EvO.gt0); (case hW => exact rfl); (case hx => first
            | ((with_reducible apply OpR.mv); (conv => lhs; whnf); try exact rfl)
            | ((with_reducible apply OpR.six); (case hx => exact rfl); (case hi => exact rfl); (case hst => exact rfl); (case h0 => omega); (case hb => assumption))
            | exact OpR.r fun _ => rfl))
         | ((with_reducible apply EvO.u0); (case hx => first
            | ((with_reducible apply OpR.mv); (conv => lhs; whnf); try exact rfl)
            | ((with_reducible apply OpR.asg); (conv => lhs; whnf); try exact rfl)
            | ((with_reducible apply OpR.pk_f); (case hc => exact rfl); (case h => (conv => lhs; whnf); try exact rfl))
            | ((with_reducible apply OpR.slo); (case hst => exact rfl); (case hx => exact rfl); (case hl => exact rfl); (case h0 => omega); (case hls => first | assumption | omega); (case hv => exact hsl))
            | ((with_reducible apply OpR.bs0); (case hs => exact fun _ => rfl); (case hr => first | (with_reducible exact rw0) | (with_reducible exact rw1) | (with_reducible exact rw2) | (with_reducible exact rw3) | (with_reducible exact rw4) | exact rfl); (case hn => (first | exact ln0 | exact ln1 | exact ln2 | exact ln3 | exact ln4 | exact ln5 | exact ln6 | exact ln7 | exact ln8 | exact ln9 | exact ln10 | exact ln11 | exact ln12 | exact ln13 | exact ln14)); (case hf => (repeat' (first | exact LEq.nil | ((with_reducible apply LEq.cons); (case h => (conv => lhs; whnf); try exact rfl)) | (apply LEq.cons; (case h => (conv => lhs; whnf); try exact rfl))))))
            | exact OpR.r fun _ => rfl))
         | fail)
      apply EvK.loopV
      case ho => exact rfl
      case hp => exact rfl
      case hl => exact rfl
      case hs => repeat' (first | exact Slots.nil | (apply Slots.cons; (case hv => (conv => lhs; whnf); try exact rfl)))
      refine EvL.indF (fun s : Bool × List Int × List UInt8 => [(4, .ls 0), (5, .t (.str (bs s.2.2)))]) (fun s => [.row false s.1 1 (intsE s.2.1)]) (fun s => s.2.1.length + s.2.2.length ≤ 900 ∧ ∃ f, s.2.2.length < f ∧ refP (91 :: r) = refGo f s.2.1 s.2.2) (fun s => s.2.2.length) (false, [], r) rfl rfl ⟨by simp; omega, r.length + 1, Nat.lt_succ_self _, rfl⟩ (fun s hs => ?_)
      obtain ⟨tch, xs, t⟩ := s
      obtain ⟨h1, f, h2, h3⟩ := hs
      simp only at h1 h2 h3
      dsimp only
      obtain ⟨f, rfl⟩ : ∃ k, f = k + 1 := ⟨f - 1, by omega⟩
      rw [refGo_eq] at h3
      have hnum := number_c (l := t) (by omega)
      have hkl := numR_le t
      generalize hnk : numR t = nk at *
      obtain ⟨n, k⟩ := nk
      simp only at hnum hkl h3
      have hsz2 : (bs t).size = t.length := bs_size t
      have hsl2 := bs_drop t k
      have hsn : intsE xs ++ [[.int .i64 n]] = intsE (xs ++ [n]) := by unfold intsE; rw [List.map_append]; rfl
      by_cases hk : k = 0
      ·
        rw [if_pos hk] at h3
        rw [h3]
        repeat' (first
           | (with_reducible apply EvK.seq)
           | (with_reducible apply EvK.block)
           | ((with_reducible apply EvK.text); (try case hm => exact rfl))
           | (with_reducible apply EvK.ret)
           | (with_reducible apply thenK_r)
           | (with_reducible apply blockK_r)
           | ((with_reducible apply EvK.cond_t); (case hc => exact rfl))
           | ((with_reducible apply EvO.spd_t); (case hp => first | assumption | omega))
           | (with_reducible apply EvO.nilT)
           | ((with_reducible apply EvO.u0); (case hx => first
              | ((with_reducible apply OpR.mv); (conv => lhs; whnf); try exact rfl)
              | ((with_reducible apply OpR.asg); (conv => lhs; whnf); try exact rfl)
              | ((with_reducible apply OpR.callF); (case hcal => exact rfl); (case hav => exact rfl); (case hx => exact rfl); (case hh => exact rfl); (case hm => exact rfl); (case hcl => exact hnum); (case hr => exact rfl))
              | exact OpR.r fun _ => rfl))
           | fail)
        exact ⟨.inr rfl, rfl⟩
      ·
        rw [if_neg hk] at h3
        have hul : (t.drop k).length + k = t.length := by simp; omega
        obtain ⟨u, hu⟩ : ∃ u, t.drop k = u := ⟨_, rfl⟩
        rw [hu] at h3 hsl2 hul
        have hxl : (xs ++ [n]).length = xs.length + 1 := by simp
        have hva := rvalid_c (xs := xs ++ [n]) (by omega)
        have hsz3 : (bs u).size = u.length := bs_size u
        cases u with
        | nil =>
          have he : bs [] = ⟨#[]⟩ := rfl
          have hn9 : ¬ bs [] = ⟨#[93]⟩ := fun h => by have := bs_inj (y := [93]) h; cases this
          rw [if_neg (by simp)] at h3
          rw [h3]
          repeat' (first
             | (with_reducible apply EvK.seq)
             | (with_reducible apply EvK.block)
             | ((with_reducible apply EvK.text); (try case hm => exact rfl))
             | (with_reducible apply EvK.skip)
             | (with_reducible apply EvK.ret)
             | (with_reducible apply thenK_n)
             | (with_reducible apply thenK_r)
             | (with_reducible apply blockK_r)
             | ((with_reducible apply EvK.cond_t); (case hc => exact rfl))
             | ((with_reducible apply EvK.cond_f); (case hc => exact rfl))
             | ((with_reducible apply EvO.spd_t); (case hp => first | assumption | omega))
             | ((with_reducible apply EvO.spd_f); (case hp => first | assumption | omega))
             | (with_reducible apply EvO.nilT)
             | ((with_reducible apply EvO.gf); (case hW => exact rfl))
             | ((with_reducible apply EvO.u); (case hx => ((with_reducible apply OpR.apr); (case hs => exact fun _ => rfl); (case ha => exact rfl); (case ht => exact rfl); (case hr => first | (with_reducible exact rw0) | (with_reducible exact rw1) | (with_reducible exact rw2) | (with_reducible exact rw3) | (with_reducible exact rw4) | exact rfl); (case hx => exact rfl); (case hy => exact rfl); (case hn => exact rfl); (case hb => exact rfl); (case hok => exact rfl); (case hlen => exact lenI (by simp [intsE_len]; omega)); (case hv => exact hsn); (case hk => (repeat' (first | exact KFr.nil | (with_reducible apply KFr.row) | (with_reducible apply KFr.boxt) | ((apply KFr.box); (case hd => (repeat' (first | exact LEq.nil | ((with_reducible apply LEq.cons); (case h => (conv => lhs; whnf); try exact rfl)) | (apply LEq.cons; (case h => (conv => lhs; whnf); try exact rfl))))))))); (case hf => (repeat' (first | exact LEq.nil | ((with_reducible apply LEq.cons); (case h => (conv => lhs; whnf); try exact rfl)) | (apply LEq.cons; (case h => (conv => lhs; whnf); try exact rfl))))))))
             | ((with_reducible apply EvO.u0); (case hx => first
                | ((with_reducible apply OpR.mv); (conv => lhs; whnf); try exact rfl)
                | ((with_reducible apply OpR.asg); (conv => lhs; whnf); try exact rfl)
                | ((with_reducible apply OpR.pk_t); (case hc => exact rfl); (case h => (conv => lhs; whnf); try exact rfl))
                | ((with_reducible apply OpR.pk_f); (case hc => exact rfl); (case h => (conv => lhs; whnf); try exact rfl))
                | ((with_reducible apply OpR.slo); (case hst => exact rfl); (case hx => exact rfl); (case hl => exact rfl); (case h0 => omega); (case hls => first | assumption | omega); (case hv => exact hsl2))
                | ((with_reducible apply OpR.callF); (case hcal => exact rfl); (case hav => exact rfl); (case hx => exact rfl); (case hh => exact rfl); (case hm => exact rfl); (case hcl => exact hnum); (case hr => exact rfl))
                | exact OpR.r fun _ => rfl))
             | fail)
          all_goals exact ⟨.inr rfl, rfl⟩
        | cons a v =>
          have hne2 : ¬ bs (a :: v) = ⟨#[]⟩ := fun h => by have := bs_inj (y := []) h; cases this
          have ha0 : (a :: v)[0]? = some a := rfl
          have hsl3 : (bs (a :: v)).extract 1 (bs (a :: v)).size = bs v := bs_drop _ 1
          have hvl : (a :: v).length = v.length + 1 := rfl
          by_cases h9 : a :: v = [93]
          ·
            have he9 : bs (a :: v) = ⟨#[93]⟩ := by rw [h9]; rfl
            have ha9 : (a.toNat : Int) = 93 := by cases h9; rfl
            cases hvv : validB (xs ++ [n]) with
            | true =>
              rw [if_pos ⟨h9, hvv⟩] at h3
              rw [h3]
              rw [hvv] at hva
              repeat' (first
                 | (with_reducible apply EvK.seq)
                 | (with_reducible apply EvK.block)
                 | ((with_reducible apply EvK.text); (try case hm => exact rfl))
                 | (with_reducible apply EvK.skip)
                 | (with_reducible apply EvK.ret)
                 | (with_reducible apply thenK_n)
                 | (with_reducible apply thenK_r)
                 | (with_reducible apply blockK_r)
                 | ((with_reducible apply EvK.cond_t); (case hc => exact rfl))
                 | ((with_reducible apply EvK.cond_f); (case hc => exact rfl))
                 | ((with_reducible apply EvO.spd_t); (case hp => first | assumption | omega))
                 | ((with_reducible apply EvO.spd_f); (case hp => first | assumption | omega))
                 | (with_reducible apply EvO.nilT)
                 | ((with_reducible apply EvO.u); (case hx => ((with_reducible apply OpR.apr); (case hs => exact fun _ => rfl); (case ha => exact rfl); (case ht => exact rfl); (case hr => first | (with_reducible exact rw0) | (with_reducible exact rw1) | (with_reducible exact rw2) | (with_reducible exact rw3) | (with_reducible exact rw4) | exact rfl); (case hx => exact rfl); (case hy => exact rfl); (case hn => exact rfl); (case hb => exact rfl); (case hok => exact rfl); (case hlen => exact lenI (by simp [intsE_len]; omega)); (case hv => exact hsn); (case hk => (repeat' (first | exact KFr.nil | (with_reducible apply KFr.row) | (with_reducible apply KFr.boxt) | ((apply KFr.box); (case hd => (repeat' (first | exact LEq.nil | ((with_reducible apply LEq.cons); (case h => (conv => lhs; whnf); try exact rfl)) | (apply LEq.cons; (case h => (conv => lhs; whnf); try exact rfl))))))))); (case hf => (repeat' (first | exact LEq.nil | ((with_reducible apply LEq.cons); (case h => (conv => lhs; whnf); try exact rfl)) | (apply LEq.cons; (case h => (conv => lhs; whnf); try exact rfl))))))))
                 | ((with_reducible apply EvO.gt0); (case hW => exact rfl); (case hx => first
                    | ((with_reducible apply OpR.mv); (conv => lhs; whnf); try exact rfl)
                    | ((with_reducible apply OpR.callF); (case hcal => exact rfl); (case hav => exact rfl); (case hx => exact rfl); (case hh => exact rfl); (case hm => exact rfl); (case hcl => exact hva); (case hr => exact rfl))))
                 | ((with_reducible apply EvO.u0); (case hx => first
                    | ((with_reducible apply OpR.mv); (conv => lhs; whnf); try exact rfl)
                    | ((with_reducible apply OpR.asg); (conv => lhs; whnf); try exact rfl)
                    | ((with_reducible apply OpR.pk_t); (case hc => exact rfl); (case h => (conv => lhs; whnf); try exact rfl))
                    | ((with_reducible apply OpR.slo); (case hst => exact rfl); (case hx => exact rfl); (case hl => exact rfl); (case h0 => omega); (case hls => first | assumption | omega); (case hv => exact hsl2))
                    | ((with_reducible apply OpR.callF); (case hcal => exact rfl); (case hav => exact rfl); (case hx => exact rfl); (case hh => exact rfl); (case hm => exact rfl); (case hcl => exact hnum); (case hr => exact rfl))
                    | exact OpR.r fun _ => rfl))
                 | fail)
              all_goals exact ⟨.inr rfl, rfl⟩
            | false =>
              have ha32 : ¬ a = 32 := by cases h9; decide
              rw [if_neg (fun h => by rw [hvv] at h; exact absurd h.2 (by decide))] at h3
              simp only [if_neg ha32] at h3
              rw [h3]
              rw [hvv] at hva
              repeat' (first
                 | (with_reducible apply EvK.seq)
                 | (with_reducible apply EvK.block)
                 | ((with_reducible apply EvK.text); (try case hm => exact rfl))
                 | (with_reducible apply EvK.skip)
                 | (with_reducible apply EvK.ret)
                 | (with_reducible apply thenK_n)
                 | (with_reducible apply thenK_r)
                 | (with_reducible apply blockK_r)
                 | ((with_reducible apply EvK.cond_t); (case hc => exact rfl))
                 | ((with_reducible apply EvK.cond_f); (case hc => exact rfl))
                 | ((with_reducible apply EvO.spd_t); (case hp => first | assumption | omega))
                 | ((with_reducible apply EvO.spd_f); (case hp => first | assumption | omega))
                 | ((with_reducible apply EvO.spn_yt); (case hp => first | assumption | omega))
                 | (with_reducible apply EvO.nilT)
                 | ((with_reducible apply EvO.u); (case hx => ((with_reducible apply OpR.apr); (case hs => exact fun _ => rfl); (case ha => exact rfl); (case ht => exact rfl); (case hr => first | (with_reducible exact rw0) | (with_reducible exact rw1) | (with_reducible exact rw2) | (with_reducible exact rw3) | (with_reducible exact rw4) | exact rfl); (case hx => exact rfl); (case hy => exact rfl); (case hn => exact rfl); (case hb => exact rfl); (case hok => exact rfl); (case hlen => exact lenI (by simp [intsE_len]; omega)); (case hv => exact hsn); (case hk => (repeat' (first | exact KFr.nil | (with_reducible apply KFr.row) | (with_reducible apply KFr.boxt) | ((apply KFr.box); (case hd => (repeat' (first | exact LEq.nil | ((with_reducible apply LEq.cons); (case h => (conv => lhs; whnf); try exact rfl)) | (apply LEq.cons; (case h => (conv => lhs; whnf); try exact rfl))))))))); (case hf => (repeat' (first | exact LEq.nil | ((with_reducible apply LEq.cons); (case h => (conv => lhs; whnf); try exact rfl)) | (apply LEq.cons; (case h => (conv => lhs; whnf); try exact rfl))))))))
                 | ((with_reducible apply EvO.gt0); (case hW => exact rfl); (case hx => first
                    | ((with_reducible apply OpR.mv); (conv => lhs; whnf); try exact rfl)
                    | ((with_reducible apply OpR.six); (case hx => exact rfl); (case hi => exact rfl); (case hst => exact rfl); (case h0 => omega); (case hb => assumption))
                    | ((with_reducible apply OpR.callF); (case hcal => exact rfl); (case hav => exact rfl); (case hx => exact rfl); (case hh => exact rfl); (case hm => exact rfl); (case hcl => exact hva); (case hr => exact rfl))
                    | exact OpR.r fun _ => rfl))
                 | ((with_reducible apply EvO.u0); (case hx => first
                    | ((with_reducible apply OpR.mv); (conv => lhs; whnf); try exact rfl)
                    | ((with_reducible apply OpR.asg); (conv => lhs; whnf); try exact rfl)
                    | ((with_reducible apply OpR.pk_t); (case hc => exact rfl); (case h => (conv => lhs; whnf); try exact rfl))
                    | ((with_reducible apply OpR.pk_f); (case hc => exact rfl); (case h => (conv => lhs; whnf); try exact rfl))
                    | ((with_reducible apply OpR.slo); (case hst => exact rfl); (case hx => exact rfl); (case hl => exact rfl); (case h0 => omega); (case hls => first | assumption | omega); (case hv => exact hsl2))
                    | ((with_reducible apply OpR.callF); (case hcal => exact rfl); (case hav => exact rfl); (case hx => exact rfl); (case hh => exact rfl); (case hm => exact rfl); (case hcl => exact hnum); (case hr => exact rfl))
                    | exact OpR.r fun _ => rfl))
                 | fail)
              all_goals exact ⟨.inr rfl, rfl⟩
          ·
            have hne9 : ¬ bs (a :: v) = ⟨#[93]⟩ := fun h => h9 (bs_inj (y := [93]) h)
            rw [if_neg (fun h => h9 h.1)] at h3
            by_cases h32 : a = 32
            ·
              have ha32 : (a.toNat : Int) = 32 := by rw [h32]; rfl
              simp only [if_pos h32] at h3
              repeat' (first
                 | (with_reducible apply EvK.seq)
                 | (with_reducible apply EvK.block)
                 | ((with_reducible apply EvK.text); (try case hm => exact rfl))
                 | (with_reducible apply EvK.skip)
                 | (with_reducible apply thenK_n)
                 | ((with_reducible apply EvK.cond_f); (case hc => exact rfl))
                 | ((with_reducible apply EvO.spd_f); (case hp => first | assumption | omega))
                 | ((with_reducible apply EvO.spn_yf); (case hp => first | assumption | omega))
                 | (with_reducible apply EvO.nilT)
                 | (with_reducible apply EvO.nilB)
                 | ((with_reducible apply EvO.gf); (case hW => exact rfl))
                 | ((with_reducible apply EvO.u); (case hx => ((with_reducible apply OpR.apr); (case hs => exact fun _ => rfl); (case ha => exact rfl); (case ht => exact rfl); (case hr => first | (with_reducible exact rw0) | (with_reducible exact rw1) | (with_reducible exact rw2) | (with_reducible exact rw3) | (with_reducible exact rw4) | exact rfl); (case hx => exact rfl); (case hy => exact rfl); (case hn => exact rfl); (case hb => exact rfl); (case hok => exact rfl); (case hlen => exact lenI (by simp [intsE_len]; omega)); (case hv => exact hsn); (case hk => (repeat' (first | exact KFr.nil | (with_reducible apply KFr.row) | (with_reducible apply KFr.boxt) | ((apply KFr.box); (case hd => (repeat' (first | exact LEq.nil | ((with_reducible apply LEq.cons); (case h => (conv => lhs; whnf); try exact rfl)) | (apply LEq.cons; (case h => (conv => lhs; whnf); try exact rfl))))))))); (case hf => (repeat' (first | exact LEq.nil | ((with_reducible apply LEq.cons); (case h => (conv => lhs; whnf); try exact rfl)) | (apply LEq.cons; (case h => (conv => lhs; whnf); try exact rfl))))))))
                 | ((with_reducible apply EvO.gt0); (case hW => exact rfl); (case hx => first
                    | ((with_reducible apply OpR.mv); (conv => lhs; whnf); try exact rfl)
                    | ((with_reducible apply OpR.six); (case hx => exact rfl); (case hi => exact rfl); (case hst => exact rfl); (case h0 => omega); (case hb => assumption))
                    | exact OpR.r fun _ => rfl))
                 | ((with_reducible apply EvO.u0); (case hx => first
                    | ((with_reducible apply OpR.mv); (conv => lhs; whnf); try exact rfl)
                    | ((with_reducible apply OpR.asg); (conv => lhs; whnf); try exact rfl)
                    | ((with_reducible apply OpR.pk_f); (case hc => exact rfl); (case h => (conv => lhs; whnf); try exact rfl))
                    | ((with_reducible apply OpR.slo); (case hst => exact rfl); (case hx => exact rfl); (case hl => exact rfl); (case h0 => omega); (case hls => first | assumption | omega); (case hv => exact hsl2))
                    | ((with_reducible apply OpR.slo); (case hst => exact rfl); (case hx => exact rfl); (case hl => exact rfl); (case h0 => omega); (case hls => first | assumption | omega); (case hv => exact hsl3))
                    | ((with_reducible apply OpR.callF); (case hcal => exact rfl); (case hav => exact rfl); (case hx => exact rfl); (case hh => exact rfl); (case hm => exact rfl); (case hcl => exact hnum); (case hr => exact rfl))
                    | exact OpR.r fun _ => rfl))
                 | fail)
              refine ⟨(true, xs ++ [n], v), rfl, rfl, ⟨by dsimp only; omega, f, by dsimp only; omega, h3⟩, by dsimp only; omega⟩
            ·
              have ha32 := u8_ne h32
              have h32' : (((32 : UInt8).toNat : Nat) : Int) = 32 := rfl
              simp only [if_neg h32] at h3
              rw [h3]
              repeat' (first
                 | (with_reducible apply EvK.seq)
                 | (with_reducible apply EvK.block)
                 | ((with_reducible apply EvK.text); (try case hm => exact rfl))
                 | (with_reducible apply EvK.skip)
                 | (with_reducible apply EvK.ret)
                 | (with_reducible apply thenK_n)
                 | (with_reducible apply thenK_r)
                 | (with_reducible apply blockK_r)
                 | ((with_reducible apply EvK.cond_t); (case hc => exact rfl))
                 | ((with_reducible apply EvK.cond_f); (case hc => exact rfl))
                 | ((with_reducible apply EvO.spd_f); (case hp => first | assumption | omega))
                 | ((with_reducible apply EvO.spn_yt); (case hp => first | assumption | omega))
                 | (with_reducible apply EvO.nilT)
                 | ((with_reducible apply EvO.gf); (case hW => exact rfl))
                 | ((with_reducible apply EvO.u); (case hx => ((with_reducible apply OpR.apr); (case hs => exact fun _ => rfl); (case ha => exact rfl); (case ht => exact rfl); (case hr => first | (with_reducible exact rw0) | (with_reducible exact rw1) | (with_reducible exact rw2) | (with_reducible exact rw3) | (with_reducible exact rw4) | exact rfl); (case hx => exact rfl); (case hy => exact rfl); (case hn => exact rfl); (case hb => exact rfl); (case hok => exact rfl); (case hlen => exact lenI (by simp [intsE_len]; omega)); (case hv => exact hsn); (case hk => (repeat' (first | exact KFr.nil | (with_reducible apply KFr.row) | (with_reducible apply KFr.boxt) | ((apply KFr.box); (case hd => (repeat' (first | exact LEq.nil | ((with_reducible apply LEq.cons); (case h => (conv => lhs; whnf); try exact rfl)) | (apply LEq.cons; (case h => (conv => lhs; whnf); try exact rfl))))))))); (case hf => (repeat' (first | exact LEq.nil | ((with_reducible apply LEq.cons); (case h => (conv => lhs; whnf); try exact rfl)) | (apply LEq.cons; (case h => (conv => lhs; whnf); try exact rfl))))))))
                 | ((with_reducible apply EvO.gt0); (case hW => exact rfl); (case hx => first
                    | ((with_reducible apply OpR.mv); (conv => lhs; whnf); try exact rfl)
                    | ((with_reducible apply OpR.six); (case hx => exact rfl); (case hi => exact rfl); (case hst => exact rfl); (case h0 => omega); (case hb => assumption))
                    | exact OpR.r fun _ => rfl))
                 | ((with_reducible apply EvO.u0); (case hx => first
                    | ((with_reducible apply OpR.mv); (conv => lhs; whnf); try exact rfl)
                    | ((with_reducible apply OpR.asg); (conv => lhs; whnf); try exact rfl)
                    | ((with_reducible apply OpR.pk_f); (case hc => exact rfl); (case h => (conv => lhs; whnf); try exact rfl))
                    | ((with_reducible apply OpR.slo); (case hst => exact rfl); (case hx => exact rfl); (case hl => exact rfl); (case h0 => omega); (case hls => first | assumption | omega); (case hv => exact hsl2))
                    | ((with_reducible apply OpR.callF); (case hcal => exact rfl); (case hav => exact rfl); (case hx => exact rfl); (case hh => exact rfl); (case hm => exact rfl); (case hcl => exact hnum); (case hr => exact rfl))
                    | exact OpR.r fun _ => rfl))
                 | fail)
              all_goals exact ⟨.inr rfl, rfl⟩
    ·
      have h91 := u8_ne hb
      have h91' : (((91 : UInt8).toNat : Nat) : Int) = 91 := rfl
      have hp : refP (b :: r) = none := by simp [refP, hb]
      rw [hp]
      repeat' (first
         | (with_reducible apply EvK.seq)
         | ((with_reducible apply EvK.text); (try case hm => exact rfl))
         | (with_reducible apply EvK.ret)
         | (with_reducible apply thenK_r)
         | ((with_reducible apply EvK.cond_t); (case hc => exact rfl))
         | ((with_reducible apply EvO.spd_f); (case hp => first | assumption | omega))
         | ((with_reducible apply EvO.spn_yt); (case hp => first | assumption | omega))
         | (with_reducible apply EvO.nilT)
         | ((with_reducible apply EvO.gt0); (case hW => exact rfl); (case hx => first
            | ((with_reducible apply OpR.mv); (conv => lhs; whnf); try exact rfl)
            | ((with_reducible apply OpR.six); (case hx => exact rfl); (case hi => exact rfl); (case hst => exact rfl); (case h0 => omega); (case hb => assumption))
            | exact OpR.r fun _ => rfl))
         | ((with_reducible apply EvO.u0); (case hx => first
            | ((with_reducible apply OpR.mv); (conv => lhs; whnf); try exact rfl)
            | ((with_reducible apply OpR.asg); (conv => lhs; whnf); try exact rfl)
            | ((with_reducible apply OpR.pk_f); (case hc => exact rfl); (case h => (conv => lhs; whnf); try exact rfl))
            | exact OpR.r fun _ => rfl))
         | fail)
      all_goals exact ⟨.inr rfl, rfl⟩
end Go.Proofs.YtgbfedgghjcdcaaGreatDoor
