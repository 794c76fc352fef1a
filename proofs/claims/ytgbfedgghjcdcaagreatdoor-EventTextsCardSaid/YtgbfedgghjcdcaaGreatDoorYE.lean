/- Law 52: texts of clocks, any text: the code's reading, the reference's. No condition. -/
import Derived.Test.YtgbfedgghjcdcaaGreatDoorXA
import Derived.Test.YtgbfedgghjcdcaaGreatDoorVX
namespace Go.Proofs.YtgbfedgghjcdcaaGreatDoor
set_option linter.unusedSimpArgs false
set_option linter.unusedVariables false
set_option linter.unusedSectionVars false
open Go.RowKit
set_option maxRecDepth 100000
set_option maxHeartbeats 8000000

theorem bs_of (s : ByteArray) : bs s.data.toList = s := by obtain ⟨⟨l⟩⟩ := s; rfl
theorem bs_inj {x y : List UInt8} (h : bs x = bs y) : x = y := by
  have := congrArg (fun s : ByteArray => s.data.toList) h
  simpa [bs] using this
theorem bs_drop (l : List UInt8) (k : Nat) : (bs l).extract k (bs l).size = bs (l.drop k) := by
  apply ByteArray.ext
  rw [bs_size, ByteArray.data_extract]
  simp [bs]
  exact List.take_of_length_le (by simp)
theorem bs_take (l : List UInt8) (k : Nat) : (bs l).extract 0 k = bs (l.take k) := by
  apply ByteArray.ext
  rw [ByteArray.data_extract]
  simp [bs]
theorem format_any {c : List Int} (hc : c.length ≤ 1000) : Cl cfg 69 [.t (intsA c)] [] (.t (.str (bs (fmtS c)))) [] := by
  cases hv : validB c with
  | true => exact format_c hv
  | false =>
    have hvc := valid_c (xs := c) (by omega)
    rw [hv] at hvc
    have h0 : fmtS c = [] := by simp [fmtS, hv]
    rw [h0]
    refine Cl.of_body rfl Tryz.func69 rfl rfl rfl ?_
    repeat' (first
       | (with_reducible apply EvK.seq)
       | ((with_reducible apply EvK.text); (try case hm => exact rfl))
       | (with_reducible apply EvK.ret)
       | (with_reducible apply thenK_r)
       | ((with_reducible apply EvK.cond_t); (case hc => exact rfl))
       | (with_reducible apply EvO.nilT)
       | ((with_reducible apply EvO.u0); (case hx => first
          | ((with_reducible apply OpR.mv); (conv => lhs; whnf); try exact rfl)
          | ((with_reducible apply OpR.asg); (conv => lhs; whnf); try exact rfl)
          | ((with_reducible apply OpR.callF); (case hcal => exact rfl); (case hav => exact rfl); (case hx => exact rfl); (case hh => exact rfl); (case hm => exact rfl); (case hcl => exact hvc); (case hr => exact rfl))
          | exact OpR.r fun _ => rfl))
       | fail)
    exact ⟨.inr rfl, rfl⟩
theorem atoib_c {s : ByteArray} (h : s.size ≤ 1000) (hv : ∀ v, Lib.atoiAll s.data.toList ≠ .ok v) : Cl cfg 108 [.t (.str s)] [] (.tup [.t (.int .i64 (atoiV s.data.toList)), .t .ifn]) [] := by
  refine Cl.ext (xs := [.str s]) rfl rfl (ext_of2 rfl ?_)
  have h3 : (Nat.beq 108 108 && decide (s.size ≤ 1048576)) = true := by simp; omega
  unfold extP
  simp only [h3]
theorem atois_snoc : ∀ {ws : List (List UInt8)} {c : List Int} {x : List UInt8} {v : Int}, atois ws = some c → Lib.atoiAll x = .ok v → atois (ws ++ [x]) = some (c ++ [v])
  | [], c, x, v, h, hx => by unfold atois at h; cases h; simp [atois, hx]
  | w :: ws, c, x, v, h, hx => by
    rw [List.cons_append]
    unfold atois at h ⊢
    split at h
    · rename_i u hu
      cases hr : atois ws with
      | none => rw [hr] at h; cases h
      | some c' =>
        rw [hr] at h
        cases h
        rw [atois_snoc hr hx]
        rfl
    · cases h
theorem words_len (s : ByteArray) : (wordsB s).length ≤ s.size + 1 := by
  have hlen : (Lib.splitB ⟨#[32]⟩ 0 (Lib.countB s ⟨#[32]⟩) s).length = Lib.countB s ⟨#[32]⟩ + 1 := Lib.splitB_all _ (by decide) 0 _ s rfl
  have hcl := Lib.countB_le ⟨#[32]⟩ (by decide) _ s (Nat.le_refl _)
  show (Lib.splitB ⟨#[32]⟩ 0 (Lib.countB s ⟨#[32]⟩) s).length ≤ _
  omega
theorem parse_none {l : List UInt8} (hl : l.length ≤ 900) (h : clkP l = none) : Cl cfg 61 [.t (.str (bs l))] [] (.tup [.nil, .t (.int .i64 3)]) [] := by
  obtain ⟨u, hu⟩ : ∃ u, Lib.trimPrefix l [91] = u := ⟨_, rfl⟩
  obtain ⟨b, hb⟩ : ∃ b, Lib.trimSuffix u [93] = b := ⟨_, rfl⟩
  have hul : u.length ≤ 900 := by rw [← hu]; unfold Lib.trimPrefix; split <;> first | omega | (simp; omega)
  have hbl : b.length ≤ 900 := by rw [← hb]; unfold Lib.trimSuffix; split <;> first | omega | (simp; omega)
  have k1 := cutp_c (bs l) ⟨#[91]⟩
  rw [bs_data, show (⟨#[91]⟩ : ByteArray).data.toList = [91] from rfl, hu] at k1
  have k2 := cuts_c (bs u) ⟨#[93]⟩ (by rw [bs_size]; omega)
  rw [bs_data, show (⟨#[93]⟩ : ByteArray).data.toList = [93] from rfl, hb] at k2
  refine Cl.of_body rfl Tryz.func61 rfl rfl rfl ?_
  cases hp : Lib.hasPrefix l [91] with
  | false =>
    rw [hp] at k1
    repeat' (first
       | (with_reducible apply EvK.seq)
       | ((with_reducible apply EvK.text); (try case hm => exact rfl))
       | (with_reducible apply EvK.ret)
       | (with_reducible apply thenK_r)
       | ((with_reducible apply EvK.cond_t); (case hc => exact rfl))
       | (with_reducible apply EvO.nilT)
       | ((with_reducible apply EvO.gf); (case hW => exact rfl))
       | ((with_reducible apply EvO.u0); (case hx => first
          | ((with_reducible apply OpR.mv); (conv => lhs; whnf); try exact rfl)
          | ((with_reducible apply OpR.asg); (conv => lhs; whnf); try exact rfl)
          | ((with_reducible apply OpR.pk_t); (case hc => exact rfl); (case h => (conv => lhs; whnf); try exact rfl))
          | ((with_reducible apply OpR.callF); (case hcal => exact rfl); (case hav => exact rfl); (case hx => exact rfl); (case hh => exact rfl); (case hm => exact rfl); (case hcl => exact k1); (case hr => exact rfl))
          | ((with_reducible apply OpR.callF); (case hcal => exact rfl); (case hav => exact rfl); (case hx => exact rfl); (case hh => exact rfl); (case hm => exact rfl); (case hcl => exact k2); (case hr => exact rfl))
          | exact OpR.r fun _ => rfl))
       | fail)
    exact ⟨.inr rfl, rfl⟩
  | true =>
  rw [hp] at k1
  cases hsu : Lib.hasSuffix u [93] with
  | false =>
    rw [hsu] at k2
    repeat' (first
       | (with_reducible apply EvK.seq)
       | ((with_reducible apply EvK.text); (try case hm => exact rfl))
       | (with_reducible apply EvK.ret)
       | (with_reducible apply thenK_r)
       | ((with_reducible apply EvK.cond_t); (case hc => exact rfl))
       | (with_reducible apply EvO.nilT)
       | ((with_reducible apply EvO.gt0); (case hW => exact rfl); (case hx => first
          | ((with_reducible apply OpR.mv); (conv => lhs; whnf); try exact rfl)
          | exact OpR.r fun _ => rfl))
       | ((with_reducible apply EvO.u0); (case hx => first
          | ((with_reducible apply OpR.mv); (conv => lhs; whnf); try exact rfl)
          | ((with_reducible apply OpR.asg); (conv => lhs; whnf); try exact rfl)
          | ((with_reducible apply OpR.pk_f); (case hc => exact rfl); (case h => (conv => lhs; whnf); try exact rfl))
          | ((with_reducible apply OpR.callF); (case hcal => exact rfl); (case hav => exact rfl); (case hx => exact rfl); (case hh => exact rfl); (case hm => exact rfl); (case hcl => exact k1); (case hr => exact rfl))
          | ((with_reducible apply OpR.callF); (case hcal => exact rfl); (case hav => exact rfl); (case hx => exact rfl); (case hh => exact rfl); (case hm => exact rfl); (case hcl => exact k2); (case hr => exact rfl))
          | exact OpR.r fun _ => rfl))
       | fail)
    exact ⟨.inr rfl, rfl⟩
  | true =>
    rw [hsu] at k2
    have k3 := split_c (bs b) (by rw [bs_size]; omega)
    have hwd := wordsB_data (bs b)
    rw [bs_data] at hwd
    have hwl := words_len (bs b)
    rw [bs_size] at hwl
    have hwe : (wordsE (bs b)).length = (wordsB (bs b)).length := by simp [wordsE]
    repeat' (first
       | (with_reducible apply EvK.seq)
       | (with_reducible apply EvK.block)
       | ((with_reducible apply EvK.text); (try case hm => exact rfl))
       | (with_reducible apply EvK.skip)
       | (with_reducible apply thenK_n)
       | ((with_reducible apply EvK.cond_f); (case hc => exact rfl))
       | (with_reducible apply EvO.nilT)
       | ((with_reducible apply EvO.gt0); (case hW => exact rfl); (case hx => first
          | ((with_reducible apply OpR.mv); (conv => lhs; whnf); try exact rfl)
          | exact OpR.r fun _ => rfl))
       | ((with_reducible apply EvO.u0); (case hx => first
          | ((with_reducible apply OpR.mv); (conv => lhs; whnf); try exact rfl)
          | ((with_reducible apply OpR.asg); (conv => lhs; whnf); try exact rfl)
          | ((with_reducible apply OpR.pk_f); (case hc => exact rfl); (case h => (conv => lhs; whnf); try exact rfl))
          | ((with_reducible apply OpR.callF); (case hcal => exact rfl); (case hav => exact rfl); (case hx => exact rfl); (case hh => exact rfl); (case hm => exact rfl); (case hcl => exact k1); (case hr => exact rfl))
          | ((with_reducible apply OpR.callF); (case hcal => exact rfl); (case hav => exact rfl); (case hx => exact rfl); (case hh => exact rfl); (case hm => exact rfl); (case hcl => exact k2); (case hr => exact rfl))
          | ((with_reducible apply OpR.callN); (case hcal => exact rfl); (case hav => exact rfl); (case hx => exact rfl); (case hh => exact rfl); (case hm => exact rfl); (case hcl => exact k3); (case hn => exact rfl); (case hr => exact rfl))
          | ((with_reducible apply OpR.len); (case ha => exact rfl); (case hy => exact rfl); (case ht => exact rfl); (case hs => exact rfl); (case hn => first | exact List.length_map _ | exact rfl))
          | exact OpR.r fun _ => rfl))
       | fail)
    apply EvK.loopV
    case ho => exact rfl
    case hp => exact rfl
    case hl => exact rfl
    case hs => repeat' (first | exact Slots.nil | (apply Slots.cons; (case hv => (conv => lhs; whnf); try exact rfl)))
    refine EvL.indF (fun s : Nat × List Int => [(7, .ls 0), (31, .t (.int .i64 (s.1 : Int)))]) (fun s => [.row false (Nat.blt 0 s.1) 1 (intsE s.2)]) (fun s => s.1 ≤ (wordsB (bs b)).length ∧ s.2.length = s.1 ∧ atois ((wordsOf b).take s.1) = some s.2) (fun s => (wordsB (bs b)).length - s.1) (0, []) rfl rfl ⟨by simp, rfl, rfl⟩ (fun s hs => ?_)
    obtain ⟨q, c⟩ := s
    obtain ⟨h1, h2, h4⟩ := hs
    simp only at h1 h2 h4
    dsimp only
    rcases Nat.lt_or_ge q (wordsB (bs b)).length with h3 | h3
    ·
      obtain ⟨w, hw⟩ := get_of_lt (xs := wordsB (bs b)) (k := q) (by omega)
      have hws := word_size (bs b) w (List.mem_of_getElem? hw)
      rw [bs_size] at hws
      have hwc : (wordsE (bs b))[q]? = some [.str w] := by simp [wordsE, hw]
      have hwq : (wordsOf b)[q]? = some w.data.toList := by rw [← hwd, List.getElem?_map, hw]; rfl
      by_cases hok : ∃ v, Lib.atoiAll w.data.toList = .ok v
      ·
        obtain ⟨v, hv⟩ := hok
        have hat := atoi_c (by omega) hv
        have hsn : intsE c ++ [[.int .i64 v]] = intsE (c ++ [v]) := by unfold intsE; rw [List.map_append]; rfl
        repeat' (first
           | (with_reducible apply EvK.seq)
           | (with_reducible apply EvK.block)
           | ((with_reducible apply EvK.text); (try case hm => exact rfl))
           | (with_reducible apply EvK.skip)
           | (with_reducible apply thenK_n)
           | ((with_reducible apply EvK.cond_t); (case hc => exact rfl))
           | ((with_reducible apply EvK.cond_f); (case hc => exact rfl))
           | ((with_reducible apply EvO.spd_t); (case hp => first | assumption | omega))
           | (with_reducible apply EvO.nilT)
           | (with_reducible apply EvO.nilB)
           | ((with_reducible apply EvO.u); (case hx => ((with_reducible apply OpR.apr); (case hs => exact fun _ => rfl); (case ha => exact rfl); (case ht => exact rfl); (case hr => first | (with_reducible exact rw0) | (with_reducible exact rw1) | (with_reducible exact rw2) | (with_reducible exact rw3) | (with_reducible exact rw4) | exact rfl); (case hx => exact rfl); (case hy => exact rfl); (case hn => exact rfl); (case hb => exact rfl); (case hok => exact rfl); (case hlen => exact lenI (by simp [intsE_len]; omega)); (case hv => exact hsn); (case hk => (repeat' (first | exact KFr.nil | (with_reducible apply KFr.row) | (with_reducible apply KFr.boxt) | ((apply KFr.box); (case hd => (repeat' (first | exact LEq.nil | ((with_reducible apply LEq.cons); (case h => (conv => lhs; whnf); try exact rfl)) | (apply LEq.cons; (case h => (conv => lhs; whnf); try exact rfl))))))))); (case hf => (repeat' (first | exact LEq.nil | ((with_reducible apply LEq.cons); (case h => (conv => lhs; whnf); try exact rfl)) | (apply LEq.cons; (case h => (conv => lhs; whnf); try exact rfl))))))))
           | ((with_reducible apply EvO.u0); (case hx => first
              | ((with_reducible apply OpR.mv); (conv => lhs; whnf); try exact rfl)
              | ((with_reducible apply OpR.asg); (conv => lhs; whnf); try exact rfl)
              | ((with_reducible apply OpR.callF); (case hcal => exact rfl); (case hav => exact rfl); (case hx => exact rfl); (case hh => exact rfl); (case hm => exact rfl); (case hcl => exact hat); (case hr => exact rfl))
              | ((with_reducible apply OpR.inc); (case hx => exact rfl); (case hy => exact rfl); (case h => omega))
              | ((with_reducible apply OpR.ix); (case he => first | (with_reducible exact el0) | (with_reducible exact el1) | (with_reducible exact el2) | (with_reducible exact el3) | (with_reducible exact el4) | (with_reducible exact el5) | (with_reducible exact el6) | (with_reducible exact el7) | exact rfl); (case hx => exact rfl); (case hi => exact rfl); (case hc => assumption); (case hz => exact rfl))
              | exact OpR.r fun _ => rfl))
           | fail)
        refine ⟨(q + 1, c ++ [v]), rfl, rfl, ⟨by dsimp only; omega, by dsimp only; simp [h2], ?_⟩, by dsimp only; omega⟩
        dsimp only
        rw [List.take_add_one, hwq]
        exact atois_snoc h4 hv
      ·
        have hat := atoib_c (s := w) (by omega) (fun v hv => hok ⟨v, hv⟩)
        repeat' (first
           | (with_reducible apply EvK.seq)
           | (with_reducible apply EvK.block)
           | ((with_reducible apply EvK.text); (try case hm => exact rfl))
           | (with_reducible apply EvK.skip)
           | (with_reducible apply EvK.ret)
           | (with_reducible apply thenK_n)
           | (with_reducible apply thenK_r)
           | (with_reducible apply blockK_r)
           | ((with_reducible apply EvK.cond_t); (case hc => exact rfl))
           | ((with_reducible apply EvO.spd_t); (case hp => first | assumption | omega))
           | (with_reducible apply EvO.nilT)
           | ((with_reducible apply EvO.u0); (case hx => first
              | ((with_reducible apply OpR.mv); (conv => lhs; whnf); try exact rfl)
              | ((with_reducible apply OpR.asg); (conv => lhs; whnf); try exact rfl)
              | ((with_reducible apply OpR.callN); (case hcal => exact rfl); (case hav => exact rfl); (case hx => exact rfl); (case hh => exact rfl); (case hm => exact rfl); (case hcl => exact hat); (case hn => exact rfl); (case hr => exact rfl))
              | ((with_reducible apply OpR.ix); (case he => first | (with_reducible exact el0) | (with_reducible exact el1) | (with_reducible exact el2) | (with_reducible exact el3) | (with_reducible exact el4) | (with_reducible exact el5) | (with_reducible exact el6) | (with_reducible exact el7) | exact rfl); (case hx => exact rfl); (case hi => exact rfl); (case hc => assumption); (case hz => exact rfl))
              | exact OpR.r fun _ => rfl))
           | fail)
        exact ⟨.inr rfl, rfl⟩
    ·
      have hwq : (wordsOf b).length = (wordsB (bs b)).length := by rw [← hwd]; simp
      rw [List.take_of_length_le (by omega)] at h4
      have hfa := format_any (c := c) (by omega)
      have hne : ¬ bs (fmtS c) = bs l := by
        intro he
        have he := bs_inj he
        unfold clkP bodyOf at h
        rw [hu] at h
        rw [if_pos ⟨hp, hsu⟩, hb, h4] at h
        simp [he] at h
      repeat' (first
         | (with_reducible apply EvK.seq)
         | ((with_reducible apply EvK.text); (try case hm => exact rfl))
         | (with_reducible apply EvK.exit)
         | (with_reducible apply EvK.ret)
         | (with_reducible apply thenK_n)
         | (with_reducible apply thenK_e)
         | (with_reducible apply thenK_r)
         | (with_reducible apply blockK_h)
         | ((with_reducible apply EvK.cond_t); (case hc => exact rfl))
         | ((with_reducible apply EvK.cond_f); (case hc => exact rfl))
         | ((with_reducible apply EvO.spd_f); (case hp => first | assumption | omega))
         | ((with_reducible apply EvO.spn_t); (case hp => first | assumption | omega))
         | (with_reducible apply EvO.nilT)
         | ((with_reducible apply EvO.u0); (case hx => first
            | ((with_reducible apply OpR.mv); (conv => lhs; whnf); try exact rfl)
            | ((with_reducible apply OpR.asg); (conv => lhs; whnf); try exact rfl)
            | ((with_reducible apply OpR.callF); (case hcal => exact rfl); (case hav => exact rfl); (case hx => exact rfl); (case hh => exact rfl); (case hm => exact rfl); (case hcl => exact hfa); (case hr => exact rfl))
            | exact OpR.r fun _ => rfl))
         | fail)
      exact ⟨.inr rfl, rfl⟩
/-! the reference -/
theorem dec_len2 {n : Nat} (h : n ≤ 99999999) : (Lib.decDigits n).length ≤ 8 := by
  rw [Lib.decDigits_length]
  exact nDigits_le 8 _ (by omega) (by omega)
theorem dec_nat2 (N : Nat) : ∀ (n : Nat), n ≤ N → n ≤ 99999999 → Cl cfg 111 [.t (.int .i64 (n : Int))] [] (.t (.str (bs (Lib.decDigits n)))) [] := by
  induction N with
  | zero =>
    intro n hN hb
    obtain rfl : n = 0 := by omega
    exact ⟨3, by kernel_rfl⟩
  | succ N ih =>
    intro n hN hb
    have hd : (⟨#[48, 49, 50, 51, 52, 53, 54, 55, 56, 57]⟩ : ByteArray).extract (n % 10) (n % 10 + 1) = bs [UInt8.ofNat (48 + n % 10)] := dig10 ⟨n % 10, by omega⟩
    have hr : (n : Int).tmod 10 = ((n % 10 : Nat) : Int) := by rw [Int.tmod_eq_emod_of_nonneg (by omega)]; omega
    have hq : (n : Int).tdiv 10 = ((n / 10 : Nat) : Int) := by rw [Int.tdiv_eq_ediv_of_nonneg (by omega)]; omega
    have hsz : (⟨#[48, 49, 50, 51, 52, 53, 54, 55, 56, 57]⟩ : ByteArray).size = 10 := rfl
    have hi := ih (n / 10)
    have hl1 := dec_len2 (n := n / 10) (by omega)
    have hs1 : (bs (Lib.decDigits (n / 10))).size ≤ 8 := by rw [bs_size]; exact hl1
    have hs2 : (bs [UInt8.ofNat (48 + n % 10)]).size = 1 := by rw [bs_size]; rfl
    refine Cl.of_body rfl Tryz.func111 rfl rfl rfl ?_
    by_cases h10 : n < 10
    ·
      have hx : Lib.decDigits n = [UInt8.ofNat (48 + n % 10)] := by rw [Lib.decDigits_one h10, Nat.mod_eq_of_lt h10]
      rw [hx]
      repeat' (first
         | (with_reducible apply EvK.seq)
         | (with_reducible apply EvK.block)
         | ((with_reducible apply EvK.text); (try case hm => exact rfl))
         | (with_reducible apply EvK.skip)
         | (with_reducible apply EvK.ret)
         | (with_reducible apply thenK_n)
         | (with_reducible apply thenK_r)
         | (with_reducible apply blockK_r)
         | ((with_reducible apply EvK.cond_t); (case hc => exact rfl))
         | ((with_reducible apply EvK.cond_f); (case hc => exact rfl))
         | ((with_reducible apply EvO.spd_t); (case hp => first | assumption | omega))
         | ((with_reducible apply EvO.spd_f); (case hp => first | assumption | omega))
         | ((with_reducible apply EvO.spd_yt); (case hp => first | assumption | omega))
         | (with_reducible apply EvO.nilT)
         | ((with_reducible apply EvO.gf); (case hW => exact rfl))
         | ((with_reducible apply EvO.gt0); (case hW => exact rfl); (case hx => first
            | ((with_reducible apply OpR.mv); (conv => lhs; whnf); try exact rfl)
            | exact OpR.r fun _ => rfl))
         | ((with_reducible apply EvO.u0); (case hx => first
            | ((with_reducible apply OpR.mv); (conv => lhs; whnf); try exact rfl)
            | ((with_reducible apply OpR.asg); (conv => lhs; whnf); try exact rfl)
            | ((with_reducible apply OpR.pk_t); (case hc => exact rfl); (case h => (conv => lhs; whnf); try exact rfl))
            | ((with_reducible apply OpR.pk_f); (case hc => exact rfl); (case h => (conv => lhs; whnf); try exact rfl))
            | ((with_reducible apply OpR.remv); (case hx => exact rfl); (case hy => exact rfl); (case hn => omega); (case h => exact hr))
            | ((with_reducible apply OpR.ssl); (case hst => exact rfl); (case hx => exact rfl); (case hl => exact rfl); (case hh => exact rfl); (case hlh => omega); (case hhs => omega); (case hv => exact hd))
            | ((with_reducible apply OpR.inc); (case hx => exact rfl); (case hy => exact rfl); (case h => omega))
            | exact OpR.r fun _ => rfl))
         | fail)
      exact ⟨.inr rfl, rfl⟩
    ·
      rw [dec_big h10, ← bs_app]
      repeat' (first
         | (with_reducible apply EvK.seq)
         | (with_reducible apply EvK.block)
         | ((with_reducible apply EvK.text); (try case hm => exact rfl))
         | (with_reducible apply EvK.skip)
         | (with_reducible apply EvK.ret)
         | (with_reducible apply thenK_n)
         | (with_reducible apply blockK_n)
         | ((with_reducible apply EvK.cond_f); (case hc => exact rfl))
         | ((with_reducible apply EvO.spd_t); (case hp => first | assumption | omega))
         | ((with_reducible apply EvO.spd_f); (case hp => first | assumption | omega))
         | ((with_reducible apply EvO.spd_yf); (case hp => first | assumption | omega))
         | (with_reducible apply EvO.nilT)
         | ((with_reducible apply EvO.gf); (case hW => exact rfl))
         | ((with_reducible apply EvO.gt0); (case hW => exact rfl); (case hx => first
            | ((with_reducible apply OpR.mv); (conv => lhs; whnf); try exact rfl)
            | exact OpR.r fun _ => rfl))
         | ((with_reducible apply EvO.u0); (case hx => first
            | ((with_reducible apply OpR.mv); (conv => lhs; whnf); try exact rfl)
            | ((with_reducible apply OpR.asg); (conv => lhs; whnf); try exact rfl)
            | ((with_reducible apply OpR.pk_t); (case hc => exact rfl); (case h => (conv => lhs; whnf); try exact rfl))
            | ((with_reducible apply OpR.pk_f); (case hc => exact rfl); (case h => (conv => lhs; whnf); try exact rfl))
            | ((with_reducible apply OpR.remv); (case hx => exact rfl); (case hy => exact rfl); (case hn => omega); (case h => exact hr))
            | ((with_reducible apply OpR.quov); (case hx => exact rfl); (case hy => exact rfl); (case hn => omega); (case h => exact hq); (case hb => omega))
            | ((with_reducible apply OpR.ssl); (case hst => exact rfl); (case hx => exact rfl); (case hl => exact rfl); (case hh => exact rfl); (case hlh => omega); (case hhs => omega); (case hv => exact hd))
            | ((with_reducible apply OpR.callF); (case hcal => exact rfl); (case hav => exact rfl); (case hx => exact rfl); (case hh => exact rfl); (case hm => exact rfl); (case hcl => exact hi (by omega) (by omega)); (case hr => exact rfl))
            | ((with_reducible apply OpR.inc); (case hx => exact rfl); (case hy => exact rfl); (case h => omega))
            | ((with_reducible apply OpR.ads); (case hx => exact rfl); (case hy => exact rfl); (case h => first | assumption | omega))
            | exact OpR.r fun _ => rfl))
         | fail)
      exact ⟨.inr rfl, rfl⟩
theorem dec2_c {n : Int} (h0 : 0 ≤ n) (h1 : n ≤ 99999999) : Cl cfg 111 [.t (.int .i64 n)] [] (.t (.str (bs (Lib.itoa n)))) [] := by
  obtain ⟨k, rfl⟩ := Int.eq_ofNat_of_zero_le h0
  have := dec_nat2 k k (Nat.le_refl _) (by omega)
  rwa [Lib.itoa, if_neg (by omega), Int.toNat_natCast]
theorem dv_snoc (l : List UInt8) (c : UInt8) : dv (l ++ [c]) = 10 * dv l + (c.toNat - 48) := by
  unfold dv; rw [dvF_append]; rfl
theorem isDig_iff {b : UInt8} : isDig b = true ↔ 48 ≤ b.toNat ∧ b.toNat ≤ 57 := by simp [isDig]
theorem dv_step {l : List UInt8} {q : Nat} {b : UInt8} (h : l[q]? = some b) (hd : isDig b = true) : (dv (l.take (q + 1)) : Int) = 10 * (dv (l.take q) : Int) + ((b.toNat : Int) - 48) := by
  rw [List.take_add_one, h]
  show (dv (l.take q ++ [b]) : Int) = _
  rw [dv_snoc]
  have := isDig_iff.1 hd
  omega
theorem dv_lt : ∀ (q : Nat) (l : List UInt8), (l.take q).all isDig = true → q ≤ l.length → dv (l.take q) < 10 ^ q
  | 0, l, _, _ => by simp [dv, dvF]
  | q + 1, l, h, hl => by
    obtain ⟨b, hb⟩ := get_of_lt (xs := l) (k := q) (by omega)
    rw [List.take_add_one, hb] at h ⊢
    rw [List.all_append, Bool.and_eq_true] at h
    have h1 := dv_lt q l h.1 (by omega)
    have h2 : isDig b = true := by have := h.2; simpa using this
    have := isDig_iff.1 h2
    show dv (l.take q ++ [b]) < _
    rw [dv_snoc, Nat.pow_succ]
    omega
theorem takeWhile_all : ∀ {l : List UInt8}, l.all isDig = true → l.takeWhile isDig = l
  | [], _ => rfl
  | b :: l, h => by
    rw [List.all_cons, Bool.and_eq_true] at h
    rw [List.takeWhile_cons, if_pos h.1, takeWhile_all h.2]
theorem nlead_at {l : List UInt8} {q : Nat} (h : (l.take q).all isDig = true) (hq : q ≤ l.length) (hb : ∀ b, l[q]? = some b → isDig b = false) : nlead l = q := by
  unfold nlead
  have e : l = l.take q ++ l.drop q := (List.take_append_drop q l).symm
  cases hd : l.drop q with
  | nil =>
    have : l.length ≤ q := by have := congrArg List.length hd; simp at this; omega
    have e2 : l.take q = l := List.take_of_length_le this
    rw [e2] at h
    rw [takeWhile_all h]
    omega
  | cons b r =>
    have hbb : l[q]? = some b := by
      have := congrArg (fun x : List UInt8 => x[0]?) hd
      simpa using this
    have h1 : l = l.take q ++ b :: r := by rw [← hd]; exact e
    rw [h1, takeWhile_split h (hb b hbb), List.length_take]
    omega
theorem nlead_ge {l : List UInt8} {q : Nat} (h : (l.take q).all isDig = true) (hq : q ≤ l.length) : q ≤ nlead l := by
  unfold nlead
  have e : l = l.take q ++ l.drop q := (List.take_append_drop q l).symm
  rw [e, List.takeWhile_append_of_pos (fun a ha => List.all_eq_true.1 h a ha), List.length_append, List.length_take]
  omega
theorem pow_le7 {q : Nat} (h : q ≤ 7) : 10 ^ q ≤ 10000000 := by
  have : (10 : Nat) ^ q ≤ 10 ^ 7 := Nat.pow_le_pow_right (by omega) h
  simpa using this
theorem number_c {l : List UInt8} (hl : l.length ≤ 900) : Cl cfg 110 [.t (.str (bs l))] [] (.tup [.t (.int .i64 (numR l).1), .t (.int .i64 ((numR l).2 : Int))]) [] := by
  have hsz : (bs l).size = l.length := bs_size l
  refine Cl.of_body rfl Tryz.func110 rfl rfl rfl ?_
  repeat' (first
     | (with_reducible apply EvK.seq)
     | (with_reducible apply EvK.block)
     | ((with_reducible apply EvK.text); (try case hm => exact rfl))
     | (with_reducible apply EvO.nilT)
     | ((with_reducible apply EvO.u0); (case hx => ((with_reducible apply OpR.asg); (conv => lhs; whnf); try exact rfl)))
     | fail)
  apply EvK.loopV
  case ho => exact rfl
  case hp => exact rfl
  case hl => exact rfl
  case hs => repeat' (first | exact Slots.nil | (apply Slots.cons; (case hv => (conv => lhs; whnf); try exact rfl)))
  refine EvL.ind (fun q : Nat => [(4, .t (.int .i64 (dv (l.take q) : Int))), (5, .t (.int .i64 (q : Int)))]) (fun q => q ≤ 7 ∧ q ≤ l.length ∧ (l.take q).all isDig = true) (fun q => l.length - q) 0 rfl (by simp) (fun q hq => ?_)
  obtain ⟨h1, h2, h3⟩ := hq
  have hdv := dv_lt q l h3 h2
  have hp7 := pow_le7 h1
  by_cases hex : ∃ b, l[q]? = some b ∧ isDig b = true
  ·
    obtain ⟨b, hb, hd⟩ := hex
    have hd' := isDig_iff.1 hd
    have hst := dv_step hb hd
    have hlt := lt_of_get hb
    have h3' : (l.take (q + 1)).all isDig = true := all_more h3 hb hd
    repeat' (first
       | (with_reducible apply EvK.seq)
       | (with_reducible apply EvK.block)
       | ((with_reducible apply EvK.text); (try case hm => exact rfl))
       | (with_reducible apply EvK.skip)
       | (with_reducible apply EvK.ret)
       | (with_reducible apply thenK_n)
       | (with_reducible apply thenK_r)
       | (with_reducible apply blockK_n)
       | (with_reducible apply blockK_r)
       | ((with_reducible apply EvK.cond_t); (case hc => exact rfl))
       | ((with_reducible apply EvK.cond_f); (case hc => exact rfl))
       | ((with_reducible apply EvO.spd_t); (case hp => first | assumption | omega))
       | ((with_reducible apply EvO.spd) <;> intro hq)
       | ((with_reducible apply EvO.spd_yt); (case hp => first | assumption | omega))
       | (with_reducible apply EvO.nilT)
       | ((with_reducible apply EvO.gt0); (case hW => exact rfl); (case hx => first
          | ((with_reducible apply OpR.mv); (conv => lhs; whnf); try exact rfl)
          | ((with_reducible apply OpR.six); (case hx => exact rfl); (case hi => exact rfl); (case hst => exact rfl); (case h0 => omega); (case hb => assumption))
          | exact OpR.r fun _ => rfl))
       | ((with_reducible apply EvO.u0); (case hx => first
          | ((with_reducible apply OpR.mv); (conv => lhs; whnf); try exact rfl)
          | ((with_reducible apply OpR.asg); (conv => lhs; whnf); try exact rfl)
          | ((with_reducible apply OpR.pk_t); (case hc => exact rfl); (case h => (conv => lhs; whnf); try exact rfl))
          | ((with_reducible apply OpR.mul); (case hx => exact rfl); (case hy => exact rfl); (case h => omega))
          | ((with_reducible apply OpR.sub8); (case hx => exact rfl); (case hy => exact rfl); (case h => omega))
          | ((with_reducible apply OpR.cvi); (case hx => exact rfl); (case hs => exact rfl); (case hd => exact rfl); (case h => omega))
          | ((with_reducible apply OpR.six); (case hx => exact rfl); (case hi => exact rfl); (case hst => exact rfl); (case h0 => omega); (case hb => assumption))
          | ((with_reducible apply OpR.inc); (case hx => exact rfl); (case hy => exact rfl); (case h => omega))
          | ((with_reducible apply OpR.add); (case hx => exact rfl); (case hy => exact rfl); (case h => omega))
          | exact OpR.r fun _ => rfl))
       | fail)
    ·
      have hge := nlead_ge h3' (by omega)
      have hn : numR l = (-1, 0) := by unfold numR; rw [if_neg (by omega)]
      rw [hn]
      exact ⟨.inr rfl, rfl⟩
    ·
      refine ⟨q + 1, ?_, rfl, ⟨by omega, by omega, h3'⟩, by omega⟩
      rw [hst]; rfl
  ·
    have hnl : nlead l = q := nlead_at h3 h2 fun b hb => by
      cases e : isDig b with
      | false => rfl
      | true => exact absurd ⟨b, hb, e⟩ hex
    have hnum : numR l = if q ≤ 7 ∧ 1 ≤ q ∧ Lib.itoa (dv (l.take q)) = l.take q then ((dv (l.take q) : Int), q) else (-1, 0) := by unfold numR; rw [hnl]
    have hdc := dec2_c (n := (dv (l.take q) : Int)) (by omega) (by omega)
    have hnd : ∀ b, l[q]? = some b → ¬ (48 ≤ (b.toNat : Int) ∧ (b.toNat : Int) ≤ 57) := fun b hb h => hex ⟨b, hb, isDig_iff.2 (by omega)⟩
    have htk := bs_take l q
    rcases Nat.eq_zero_or_pos q with h0 | h0
    ·
      subst h0
      rw [if_neg (by omega)] at hnum
      rw [hnum]
      rcases Nat.lt_or_ge 0 l.length with h4 | h4
      ·
        obtain ⟨b, hb⟩ := get_of_lt h4
        have hnd := hnd b hb
        repeat' (first
           | (with_reducible apply EvK.seq)
           | ((with_reducible apply EvK.text); (try case hm => exact rfl))
           | ((with_reducible apply EvK.drawn); (case hm => exact rfl))
           | (with_reducible apply EvK.exit)
           | (with_reducible apply EvK.ret)
           | (with_reducible apply thenK_n)
           | (with_reducible apply thenK_e)
           | (with_reducible apply thenK_r)
           | (with_reducible apply blockK_h)
           | ((with_reducible apply EvK.cond_t); (case hc => exact rfl))
           | ((with_reducible apply EvK.cond_f); (case hc => exact rfl))
           | ((with_reducible apply EvO.spd_t); (case hp => first | assumption | omega))
           | ((with_reducible apply EvO.spd_yf); (case hp => first | assumption | omega))
           | ((with_reducible apply EvO.spd_y) <;> intro hq)
           | (with_reducible apply EvO.nilT)
           | ((with_reducible apply EvO.gf); (case hW => exact rfl))
           | ((with_reducible apply EvO.gt0); (case hW => exact rfl); (case hx => first
              | ((with_reducible apply OpR.mv); (conv => lhs; whnf); try exact rfl)
              | ((with_reducible apply OpR.six); (case hx => exact rfl); (case hi => exact rfl); (case hst => exact rfl); (case h0 => omega); (case hb => assumption))
              | exact OpR.r fun _ => rfl))
           | ((with_reducible apply EvO.u0); (case hx => first
              | ((with_reducible apply OpR.mv); (conv => lhs; whnf); try exact rfl)
              | ((with_reducible apply OpR.asg); (conv => lhs; whnf); try exact rfl)
              | ((with_reducible apply OpR.pk_t); (case hc => exact rfl); (case h => (conv => lhs; whnf); try exact rfl))
              | ((with_reducible apply OpR.pk_f); (case hc => exact rfl); (case h => (conv => lhs; whnf); try exact rfl))
              | exact OpR.r fun _ => rfl))
           | fail)
        all_goals exact ⟨.inr rfl, rfl⟩
      ·
        repeat' (first
           | (with_reducible apply EvK.seq)
           | ((with_reducible apply EvK.text); (try case hm => exact rfl))
           | ((with_reducible apply EvK.drawn); (case hm => exact rfl))
           | (with_reducible apply EvK.exit)
           | (with_reducible apply EvK.ret)
           | (with_reducible apply thenK_n)
           | (with_reducible apply thenK_e)
           | (with_reducible apply thenK_r)
           | (with_reducible apply blockK_h)
           | ((with_reducible apply EvK.cond_t); (case hc => exact rfl))
           | ((with_reducible apply EvK.cond_f); (case hc => exact rfl))
           | ((with_reducible apply EvO.spd_t); (case hp => first | assumption | omega))
           | ((with_reducible apply EvO.spd_f); (case hp => first | assumption | omega))
           | (with_reducible apply EvO.nilT)
           | ((with_reducible apply EvO.gf); (case hW => exact rfl))
           | ((with_reducible apply EvO.u0); (case hx => first
              | ((with_reducible apply OpR.mv); (conv => lhs; whnf); try exact rfl)
              | ((with_reducible apply OpR.asg); (conv => lhs; whnf); try exact rfl)
              | ((with_reducible apply OpR.pk_t); (case hc => exact rfl); (case h => (conv => lhs; whnf); try exact rfl))
              | ((with_reducible apply OpR.pk_f); (case hc => exact rfl); (case h => (conv => lhs; whnf); try exact rfl))
              | exact OpR.r fun _ => rfl))
           | fail)
        all_goals exact ⟨.inr rfl, rfl⟩
    ·
      by_cases he : Lib.itoa (dv (l.take q)) = l.take q
      ·
        rw [if_pos ⟨h1, h0, he⟩] at hnum
        rw [hnum]
        have hee : bs (Lib.itoa (dv (l.take q))) = bs (l.take q) := by rw [he]
        rcases Nat.lt_or_ge q l.length with h4 | h4
        ·
          obtain ⟨b, hb⟩ := get_of_lt h4
          have hnd := hnd b hb
          repeat' (first
             | (with_reducible apply EvK.seq)
             | ((with_reducible apply EvK.text); (try case hm => exact rfl))
             | ((with_reducible apply EvK.drawn); (case hm => exact rfl))
             | (with_reducible apply EvK.skip)
             | (with_reducible apply EvK.exit)
             | (with_reducible apply EvK.ret)
             | (with_reducible apply thenK_n)
             | (with_reducible apply thenK_e)
             | (with_reducible apply blockK_h)
             | ((with_reducible apply EvK.cond_f); (case hc => exact rfl))
             | ((with_reducible apply EvO.spd_t); (case hp => first | assumption | omega))
             | ((with_reducible apply EvO.spd_f); (case hp => first | assumption | omega))
             | ((with_reducible apply EvO.spd_yf); (case hp => first | assumption | omega))
             | ((with_reducible apply EvO.spd_y) <;> intro hq)
             | ((with_reducible apply EvO.spn_yf); (case hp => first | assumption | omega))
             | (with_reducible apply EvO.nilT)
             | ((with_reducible apply EvO.gf); (case hW => exact rfl))
             | ((with_reducible apply EvO.gt0); (case hW => exact rfl); (case hx => first
                | ((with_reducible apply OpR.mv); (conv => lhs; whnf); try exact rfl)
                | ((with_reducible apply OpR.six); (case hx => exact rfl); (case hi => exact rfl); (case hst => exact rfl); (case h0 => omega); (case hb => assumption))
                | ((with_reducible apply OpR.shi); (case hst => exact rfl); (case hx => exact rfl); (case hh => exact rfl); (case hhs => first | assumption | omega); (case hv => exact htk))
                | ((with_reducible apply OpR.callF); (case hcal => exact rfl); (case hav => exact rfl); (case hx => exact rfl); (case hh => exact rfl); (case hm => exact rfl); (case hcl => exact hdc); (case hr => exact rfl))
                | exact OpR.r fun _ => rfl))
             | ((with_reducible apply EvO.u0); (case hx => first
                | ((with_reducible apply OpR.mv); (conv => lhs; whnf); try exact rfl)
                | ((with_reducible apply OpR.asg); (conv => lhs; whnf); try exact rfl)
                | ((with_reducible apply OpR.pk_t); (case hc => exact rfl); (case h => (conv => lhs; whnf); try exact rfl))
                | ((with_reducible apply OpR.pk_f); (case hc => exact rfl); (case h => (conv => lhs; whnf); try exact rfl))
                | exact OpR.r fun _ => rfl))
             | fail)
          all_goals exact ⟨.inr rfl, rfl⟩
        ·
          repeat' (first
             | (with_reducible apply EvK.seq)
             | ((with_reducible apply EvK.text); (try case hm => exact rfl))
             | ((with_reducible apply EvK.drawn); (case hm => exact rfl))
             | (with_reducible apply EvK.skip)
             | (with_reducible apply EvK.exit)
             | (with_reducible apply EvK.ret)
             | (with_reducible apply thenK_n)
             | (with_reducible apply thenK_e)
             | (with_reducible apply blockK_h)
             | ((with_reducible apply EvK.cond_f); (case hc => exact rfl))
             | ((with_reducible apply EvO.spd_f); (case hp => first | assumption | omega))
             | ((with_reducible apply EvO.spn_yf); (case hp => first | assumption | omega))
             | (with_reducible apply EvO.nilT)
             | ((with_reducible apply EvO.gf); (case hW => exact rfl))
             | ((with_reducible apply EvO.gt0); (case hW => exact rfl); (case hx => first
                | ((with_reducible apply OpR.mv); (conv => lhs; whnf); try exact rfl)
                | ((with_reducible apply OpR.shi); (case hst => exact rfl); (case hx => exact rfl); (case hh => exact rfl); (case hhs => first | assumption | omega); (case hv => exact htk))
                | ((with_reducible apply OpR.callF); (case hcal => exact rfl); (case hav => exact rfl); (case hx => exact rfl); (case hh => exact rfl); (case hm => exact rfl); (case hcl => exact hdc); (case hr => exact rfl))
                | exact OpR.r fun _ => rfl))
             | ((with_reducible apply EvO.u0); (case hx => first
                | ((with_reducible apply OpR.mv); (conv => lhs; whnf); try exact rfl)
                | ((with_reducible apply OpR.asg); (conv => lhs; whnf); try exact rfl)
                | ((with_reducible apply OpR.pk_f); (case hc => exact rfl); (case h => (conv => lhs; whnf); try exact rfl))
                | exact OpR.r fun _ => rfl))
             | fail)
          all_goals exact ⟨.inr rfl, rfl⟩
      ·
        rw [if_neg (fun h => he h.2.2)] at hnum
        rw [hnum]
        have hee : ¬ bs (Lib.itoa (dv (l.take q))) = bs (l.take q) := fun h => he (bs_inj h)
        rcases Nat.lt_or_ge q l.length with h4 | h4
        ·
          obtain ⟨b, hb⟩ := get_of_lt h4
          have hnd := hnd b hb
          repeat' (first
             | (with_reducible apply EvK.seq)
             | ((with_reducible apply EvK.text); (try case hm => exact rfl))
             | ((with_reducible apply EvK.drawn); (case hm => exact rfl))
             | (with_reducible apply EvK.exit)
             | (with_reducible apply EvK.ret)
             | (with_reducible apply thenK_n)
             | (with_reducible apply thenK_e)
             | (with_reducible apply thenK_r)
             | (with_reducible apply blockK_h)
             | ((with_reducible apply EvK.cond_t); (case hc => exact rfl))
             | ((with_reducible apply EvK.cond_f); (case hc => exact rfl))
             | ((with_reducible apply EvO.spd_t); (case hp => first | assumption | omega))
             | ((with_reducible apply EvO.spd_f); (case hp => first | assumption | omega))
             | ((with_reducible apply EvO.spd_yf); (case hp => first | assumption | omega))
             | ((with_reducible apply EvO.spd_y) <;> intro hq)
             | ((with_reducible apply EvO.spn_yt); (case hp => first | assumption | omega))
             | (with_reducible apply EvO.nilT)
             | ((with_reducible apply EvO.gf); (case hW => exact rfl))
             | ((with_reducible apply EvO.gt0); (case hW => exact rfl); (case hx => first
                | ((with_reducible apply OpR.mv); (conv => lhs; whnf); try exact rfl)
                | ((with_reducible apply OpR.six); (case hx => exact rfl); (case hi => exact rfl); (case hst => exact rfl); (case h0 => omega); (case hb => assumption))
                | ((with_reducible apply OpR.shi); (case hst => exact rfl); (case hx => exact rfl); (case hh => exact rfl); (case hhs => first | assumption | omega); (case hv => exact htk))
                | ((with_reducible apply OpR.callF); (case hcal => exact rfl); (case hav => exact rfl); (case hx => exact rfl); (case hh => exact rfl); (case hm => exact rfl); (case hcl => exact hdc); (case hr => exact rfl))
                | exact OpR.r fun _ => rfl))
             | ((with_reducible apply EvO.u0); (case hx => first
                | ((with_reducible apply OpR.mv); (conv => lhs; whnf); try exact rfl)
                | ((with_reducible apply OpR.asg); (conv => lhs; whnf); try exact rfl)
                | ((with_reducible apply OpR.pk_t); (case hc => exact rfl); (case h => (conv => lhs; whnf); try exact rfl))
                | ((with_reducible apply OpR.pk_f); (case hc => exact rfl); (case h => (conv => lhs; whnf); try exact rfl))
                | exact OpR.r fun _ => rfl))
             | fail)
          all_goals exact ⟨.inr rfl, rfl⟩
        ·
          repeat' (first
             | (with_reducible apply EvK.seq)
             | ((with_reducible apply EvK.text); (try case hm => exact rfl))
             | ((with_reducible apply EvK.drawn); (case hm => exact rfl))
             | (with_reducible apply EvK.exit)
             | (with_reducible apply EvK.ret)
             | (with_reducible apply thenK_n)
             | (with_reducible apply thenK_e)
             | (with_reducible apply thenK_r)
             | (with_reducible apply blockK_h)
             | ((with_reducible apply EvK.cond_t); (case hc => exact rfl))
             | ((with_reducible apply EvK.cond_f); (case hc => exact rfl))
             | ((with_reducible apply EvO.spd_f); (case hp => first | assumption | omega))
             | ((with_reducible apply EvO.spn_yt); (case hp => first | assumption | omega))
             | (with_reducible apply EvO.nilT)
             | ((with_reducible apply EvO.gf); (case hW => exact rfl))
             | ((with_reducible apply EvO.gt0); (case hW => exact rfl); (case hx => first
                | ((with_reducible apply OpR.mv); (conv => lhs; whnf); try exact rfl)
                | ((with_reducible apply OpR.shi); (case hst => exact rfl); (case hx => exact rfl); (case hh => exact rfl); (case hhs => first | assumption | omega); (case hv => exact htk))
                | ((with_reducible apply OpR.callF); (case hcal => exact rfl); (case hav => exact rfl); (case hx => exact rfl); (case hh => exact rfl); (case hm => exact rfl); (case hcl => exact hdc); (case hr => exact rfl))
                | exact OpR.r fun _ => rfl))
             | ((with_reducible apply EvO.u0); (case hx => first
                | ((with_reducible apply OpR.mv); (conv => lhs; whnf); try exact rfl)
                | ((with_reducible apply OpR.asg); (conv => lhs; whnf); try exact rfl)
                | ((with_reducible apply OpR.pk_f); (case hc => exact rfl); (case h => (conv => lhs; whnf); try exact rfl))
                | exact OpR.r fun _ => rfl))
             | fail)
          all_goals exact ⟨.inr rfl, rfl⟩
end Go.Proofs.YtgbfedgghjcdcaaGreatDoor
