/- Law 52: the texts of clocks. No condition. -/
import Derived.Test.YtgbfedgghjcdcaaGreatDoorWG
import Derived.Test.YtgbfedgghjcdcaaGreatDoorSpecT
namespace Go.Proofs.YtgbfedgghjcdcaaGreatDoor
set_option linter.unusedSimpArgs false
set_option linter.unusedVariables false
set_option linter.unusedSectionVars false
open Go.RowKit
set_option maxRecDepth 100000
set_option maxHeartbeats 4000000

def bs (l : List UInt8) : ByteArray := ⟨l.toArray⟩
theorem bs_app (x y : List UInt8) : bs x ++ bs y = bs (x ++ y) := by
  apply ByteArray.ext
  simp [bs]
theorem bs_size (l : List UInt8) : (bs l).size = l.length := by simp [bs, ByteArray.size]
theorem dig10 : ∀ d : Fin 10, (⟨#[48, 49, 50, 51, 52, 53, 54, 55, 56, 57]⟩ : ByteArray).extract d.val (d.val + 1) = bs [UInt8.ofNat (48 + d.val)] := by decide
theorem dec_big {n : Nat} (h : ¬ n < 10) : Lib.decDigits n = Lib.decDigits (n / 10) ++ [UInt8.ofNat (48 + n % 10)] := by rw [Lib.decDigits, dif_neg h]
theorem dec_len {n : Nat} (h : n ≤ 1048576) : (Lib.decDigits n).length ≤ 8 := by
  rw [Lib.decDigits_length]
  exact nDigits_le 8 _ (by omega) (by omega)
theorem dec_nat (N : Nat) : ∀ (n : Nat), n ≤ N → n ≤ 1048576 → Cl cfg 111 [.t (.int .i64 (n : Int))] [] (.t (.str (bs (Lib.decDigits n)))) [] := by
  induction N with
  | zero =>
    intro n hN hb
    obtain rfl : n = 0 := by omega
    exact ⟨3, by kernel_rfl⟩
  | succ N ih =>
    intro n hN hb
    have hd : (⟨#[48, 49, 50, 51, 52, 53, 54, 55, 56, 57]⟩ : ByteArray).extract (n % 10) (n % 10 + 1) = bs [UInt8.ofNat (48 + n % 10)] := dig10 ⟨n % 10, by omega⟩
    have hr : (n : Int).tmod 10 = ((n % 10 : Nat) : Int) := by rw [Int.tmod_eq_emod_of_nonneg (by omega)]; omega
    have hq : (n : Int).tdiv 10 = ((n / 10 : Nat) : Int) := by rw [Int.tdiv_eq_ediv_of_nonneg (by omega)]; omega
    have hsz : (⟨#[48, 49, 50, 51, 52, 53, 54, 55, 56, 57]⟩ : ByteArray).size = 10 := rfl
    have hi := ih (n / 10)
    have hl1 := dec_len (n := n / 10) (by omega)
    have hs1 : (bs (Lib.decDigits (n / 10))).size ≤ 8 := by rw [bs_size]; exact hl1
    have hs2 : (bs [UInt8.ofNat (48 + n % 10)]).size = 1 := by rw [bs_size]; rfl
    refine Cl.of_body rfl Tryz.func111 rfl rfl rfl ?_
    by_cases h10 : n < 10
    ·
      have hx : Lib.decDigits n = [UInt8.ofNat (48 + n % 10)] := by rw [Lib.decDigits_one h10, Nat.mod_eq_of_lt h10]
      rw [hx]
      repeat' (first
         | (with_reducible apply EvK.seq)
         | (with_reducible apply EvK.block)
         | ((with_reducible apply EvK.text); (try case hm => exact rfl))
         | (with_reducible apply EvK.skip)
         | (with_reducible apply EvK.ret)
         | (with_reducible apply thenK_n)
         | (with_reducible apply thenK_r)
         | (with_reducible apply blockK_r)
         | ((with_reducible apply EvK.cond_t); (case hc => exact rfl))
         | ((with_reducible apply EvK.cond_f); (case hc => exact rfl))
         | ((with_reducible apply EvO.spd_t); (case hp => first | assumption | omega))
         | ((with_reducible apply EvO.spd_f); (case hp => first | assumption | omega))
         | ((with_reducible apply EvO.spd_yt); (case hp => first | assumption | omega))
         | (with_reducible apply EvO.nilT)
         | ((with_reducible apply EvO.gf); (case hW => exact rfl))
         | ((with_reducible apply EvO.gt0); (case hW => exact rfl); (case hx => first
            | ((with_reducible apply OpR.mv); (conv => lhs; whnf); try exact rfl)
            | exact OpR.r fun _ => rfl))
         | ((with_reducible apply EvO.u0); (case hx => first
            | ((with_reducible apply OpR.mv); (conv => lhs; whnf); try exact rfl)
            | ((with_reducible apply OpR.asg); (conv => lhs; whnf); try exact rfl)
            | ((with_reducible apply OpR.pk_t); (case hc => exact rfl); (case h => (conv => lhs; whnf); try exact rfl))
            | ((with_reducible apply OpR.pk_f); (case hc => exact rfl); (case h => (conv => lhs; whnf); try exact rfl))
            | ((with_reducible apply OpR.remv); (case hx => exact rfl); (case hy => exact rfl); (case hn => omega); (case h => exact hr))
            | ((with_reducible apply OpR.ssl); (case hst => exact rfl); (case hx => exact rfl); (case hl => exact rfl); (case hh => exact rfl); (case hlh => omega); (case hhs => omega); (case hv => exact hd))
            | ((with_reducible apply OpR.inc); (case hx => exact rfl); (case hy => exact rfl); (case h => omega))
            | exact OpR.r fun _ => rfl))
         | fail)
      exact ⟨.inr rfl, rfl⟩
    ·
      rw [dec_big h10, ← bs_app]
      repeat' (first
         | (with_reducible apply EvK.seq)
         | (with_reducible apply EvK.block)
         | ((with_reducible apply EvK.text); (try case hm => exact rfl))
         | (with_reducible apply EvK.skip)
         | (with_reducible apply EvK.ret)
         | (with_reducible apply thenK_n)
         | (with_reducible apply blockK_n)
         | ((with_reducible apply EvK.cond_f); (case hc => exact rfl))
         | ((with_reducible apply EvO.spd_t); (case hp => first | assumption | omega))
         | ((with_reducible apply EvO.spd_f); (case hp => first | assumption | omega))
         | ((with_reducible apply EvO.spd_yf); (case hp => first | assumption | omega))
         | (with_reducible apply EvO.nilT)
         | ((with_reducible apply EvO.gf); (case hW => exact rfl))
         | ((with_reducible apply EvO.gt0); (case hW => exact rfl); (case hx => first
            | ((with_reducible apply OpR.mv); (conv => lhs; whnf); try exact rfl)
            | exact OpR.r fun _ => rfl))
         | ((with_reducible apply EvO.u0); (case hx => first
            | ((with_reducible apply OpR.mv); (conv => lhs; whnf); try exact rfl)
            | ((with_reducible apply OpR.asg); (conv => lhs; whnf); try exact rfl)
            | ((with_reducible apply OpR.pk_t); (case hc => exact rfl); (case h => (conv => lhs; whnf); try exact rfl))
            | ((with_reducible apply OpR.pk_f); (case hc => exact rfl); (case h => (conv => lhs; whnf); try exact rfl))
            | ((with_reducible apply OpR.remv); (case hx => exact rfl); (case hy => exact rfl); (case hn => omega); (case h => exact hr))
            | ((with_reducible apply OpR.quov); (case hx => exact rfl); (case hy => exact rfl); (case hn => omega); (case h => exact hq); (case hb => omega))
            | ((with_reducible apply OpR.ssl); (case hst => exact rfl); (case hx => exact rfl); (case hl => exact rfl); (case hh => exact rfl); (case hlh => omega); (case hhs => omega); (case hv => exact hd))
            | ((with_reducible apply OpR.callF); (case hcal => exact rfl); (case hav => exact rfl); (case hx => exact rfl); (case hh => exact rfl); (case hm => exact rfl); (case hcl => exact hi (by omega) (by omega)); (case hr => exact rfl))
            | ((with_reducible apply OpR.inc); (case hx => exact rfl); (case hy => exact rfl); (case h => omega))
            | ((with_reducible apply OpR.ads); (case hx => exact rfl); (case hy => exact rfl); (case h => first | assumption | omega))
            | exact OpR.r fun _ => rfl))
         | fail)
      exact ⟨.inr rfl, rfl⟩
theorem dec_c {n : Int} (h0 : 0 ≤ n) (h1 : n ≤ 1048576) : Cl cfg 111 [.t (.int .i64 n)] [] (.t (.str (bs (Lib.itoa n)))) [] := by
  obtain ⟨k, rfl⟩ := Int.eq_ofNat_of_zero_le h0
  have := dec_nat k k (Nat.le_refl _) (by omega)
  rwa [Lib.itoa, if_neg (by omega), Int.toNat_natCast]
theorem itoaA_c {n : Int} (h0 : -9223372036854775808 ≤ n) (h1 : n ≤ 9223372036854775807) : Cl cfg 68 [.t (.int .i64 n)] [] (.t (.str (bs (Lib.itoa n)))) [] := by
  refine Cl.ext (xs := [.int .i64 n]) rfl rfl ?_
  refine ext_of ?_
  unfold extT
  have h : decide (-9223372036854775808 ≤ n ∧ n ≤ 9223372036854775807) = true := decide_eq_true ⟨h0, h1⟩
  simp only [h]
  rfl
theorem itoa_c {n : Int} (h0 : 0 ≤ n) (h1 : n ≤ 1048576) : Cl cfg 68 [.t (.int .i64 n)] [] (.t (.str (bs (Lib.itoa n)))) [] := itoaA_c (by omega) (by omega)
def strE (xs : List Int) : List (List AV) := xs.map fun n => [.str (bs (Lib.itoa n))]
theorem strsOf_strE (xs : List Int) : strsOf (strE xs) = some (xs.map fun n => bs (Lib.itoa n)) := by
  induction xs with
  | nil => rfl
  | cons x xs ih => show (match strsOf (strE xs) with | some l => some (bs (Lib.itoa x) :: l) | none => none) = _; rw [ih]; rfl
theorem joinstr_c {xs : List Int} (h : xs.all ok1 = true) (hl : xs.length ≤ 1000) : Cl cfg 70 [.t (.arr (strE xs)), .t (.str (bs [32]))] [] (.t (.str (bs (numsT xs)))) [] := by
  refine Cl.ext (xs := [.arr (strE xs), .str (bs [32])]) rfl rfl ?_
  refine ext_of ?_
  have e : (xs.map fun n => bs (Lib.itoa n)).map (·.data.toList) = xs.map Lib.itoa := by rw [List.map_map]; rfl
  have hn := numsT_len h
  have e2 : (Lib.join (xs.map Lib.itoa) [32]) = numsT xs := rfl
  have hd : decide ((Lib.join ((xs.map fun n => bs (Lib.itoa n)).map (·.data.toList)) (bs [32]).data.toList).length ≤ 140737488355328) = true := by
    rw [e]
    exact decide_eq_true (by show (numsT xs).length ≤ _; omega)
  have hb : Nat.beq 70 68 = false := rfl
  have hb' : Nat.beq 70 70 = true := rfl
  unfold extT
  simp only [hb, hb', strsOf_strE, hd]
  rw [e]
  rfl
theorem strE_snoc {xs : List Int} {q : Nat} {n : Int} (h : xs[q]? = some n) : strE (xs.take q) ++ [[.str (bs (Lib.itoa n))]] = strE (xs.take (q + 1)) := by
  unfold strE
  rw [List.take_add_one, h, List.map_append]; rfl
theorem strE_len (xs : List Int) : (strE xs).length = xs.length := by simp [strE]
theorem lenS16 {n : Nat} (h : n ≤ 1000000) : lenOk n 16 = true := by simp [lenOk]; omega
theorem format_c {c : List Int} (hv : validB c = true) : Cl cfg 69 [.t (intsA c)] [] (.t (.str (bs (fmtS c)))) [] := by
  have h5 : 1 ≤ c.length ∧ c.length ≤ 5 := by simp [validB] at hv; omega
  have hok : c.all ok1 = true := by simp only [validB, Bool.and_eq_true] at hv; exact hv.1.1
  have h0 : fmtS c = 91 :: (numsT c ++ [93]) := by simp [fmtS, hv]
  have hn := numsT_len hok
  have hvc := valid_c (xs := c) (by omega)
  rw [hv] at hvc
  refine Cl.of_body rfl Tryz.func69 rfl rfl rfl ?_
  repeat' (first
     | (with_reducible apply EvK.seq)
     | (with_reducible apply EvK.block)
     | ((with_reducible apply EvK.text); (try case hm => exact rfl))
     | (with_reducible apply EvK.skip)
     | (with_reducible apply thenK_n)
     | ((with_reducible apply EvK.cond_f); (case hc => exact rfl))
     | (with_reducible apply EvO.nilT)
     | ((with_reducible apply EvO.u0); (case hx => first
        | ((with_reducible apply OpR.mv); (conv => lhs; whnf); try exact rfl)
        | ((with_reducible apply OpR.asg); (conv => lhs; whnf); try exact rfl)
        | ((with_reducible apply OpR.callF); (case hcal => exact rfl); (case hav => exact rfl); (case hx => exact rfl); (case hh => exact rfl); (case hm => exact rfl); (case hcl => exact hvc); (case hr => exact rfl))
        | ((with_reducible apply OpR.len); (case ha => exact rfl); (case hy => exact rfl); (case ht => exact rfl); (case hs => exact rfl); (case hn => first | exact List.length_map _ | exact rfl))
        | exact OpR.r fun _ => rfl))
     | fail)
  apply EvK.loopV
  case ho => exact rfl
  case hp => exact rfl
  case hl => exact rfl
  case hs => repeat' (first | exact Slots.nil | (apply Slots.cons; (case hv => (conv => lhs; whnf); try exact rfl)))
  refine EvL.indF (fun q : Nat => [(3, .ls 0), (11, .t (.int .i64 (q : Int)))]) (fun q => [.row false (Nat.blt 0 q) 1 (strE (c.take q))]) (fun q => q ≤ c.length) (fun q => c.length - q) 0 rfl rfl (by omega) (fun q hq => ?_)
  rcases Nat.lt_or_ge q c.length with h3 | h3
  ·
    obtain ⟨n, hn⟩ := get_of_lt h3
    have hc := intsE_get hn
    obtain ⟨n0, n1⟩ := ok1_at hv hn
    have hi := itoa_c (n := n) n0 (by omega)
    have hs := strE_snoc hn
    repeat' (first
       | (with_reducible apply EvK.seq)
       | (with_reducible apply EvK.block)
       | ((with_reducible apply EvK.text); (try case hm => exact rfl))
       | (with_reducible apply EvK.skip)
       | (with_reducible apply thenK_n)
       | ((with_reducible apply EvK.cond_t); (case hc => exact rfl))
       | ((with_reducible apply EvO.spd_t); (case hp => first | assumption | omega))
       | (with_reducible apply EvO.nilT)
       | (with_reducible apply EvO.nilB)
       | ((with_reducible apply EvO.u); (case hx => ((with_reducible apply OpR.apr); (case hs => exact fun _ => rfl); (case ha => exact rfl); (case ht => exact rfl); (case hr => first | (with_reducible exact rw0) | (with_reducible exact rw1) | (with_reducible exact rw2) | (with_reducible exact rw3) | (with_reducible exact rw4) | exact rfl); (case hx => exact rfl); (case hy => exact rfl); (case hn => exact rfl); (case hb => exact rfl); (case hok => exact rfl); (case hlen => exact lenS16 (by rw [strE_len]; simp; omega)); (case hv => exact hs); (case hk => (repeat' (first | exact KFr.nil | (with_reducible apply KFr.row) | (with_reducible apply KFr.boxt) | ((apply KFr.box); (case hd => (repeat' (first | exact LEq.nil | ((with_reducible apply LEq.cons); (case h => (conv => lhs; whnf); try exact rfl)) | (apply LEq.cons; (case h => (conv => lhs; whnf); try exact rfl))))))))); (case hf => (repeat' (first | exact LEq.nil | ((with_reducible apply LEq.cons); (case h => (conv => lhs; whnf); try exact rfl)) | (apply LEq.cons; (case h => (conv => lhs; whnf); try exact rfl))))))))
       | ((with_reducible apply EvO.u0); (case hx => first
          | ((with_reducible apply OpR.mv); (conv => lhs; whnf); try exact rfl)
          | ((with_reducible apply OpR.asg); (conv => lhs; whnf); try exact rfl)
          | ((with_reducible apply OpR.callF); (case hcal => exact rfl); (case hav => exact rfl); (case hx => exact rfl); (case hh => exact rfl); (case hm => exact rfl); (case hcl => exact hi); (case hr => exact rfl))
          | ((with_reducible apply OpR.inc); (case hx => exact rfl); (case hy => exact rfl); (case h => omega))
          | ((with_reducible apply OpR.ix); (case he => first | (with_reducible exact el0) | (with_reducible exact el1) | (with_reducible exact el2) | (with_reducible exact el3) | (with_reducible exact el4) | (with_reducible exact el5) | (with_reducible exact el6) | (with_reducible exact el7) | exact rfl); (case hx => exact rfl); (case hi => exact rfl); (case hc => assumption); (case hz => exact rfl))
          | exact OpR.r fun _ => rfl))
       | fail)
    refine ⟨q + 1, rfl, rfl, by omega, by omega⟩
  ·
    rw [List.take_of_length_le h3]
    have hj := joinstr_c hok (by omega)
    have hz1 : (bs (numsT c)).size ≤ 100 := by rw [bs_size]; omega
    have hz2 : (⟨#[91]⟩ : ByteArray).size = 1 := rfl
    have hz3 : (⟨#[93]⟩ : ByteArray).size = 1 := rfl
    have hz4 : ((⟨#[91]⟩ : ByteArray) ++ bs (numsT c)).size ≤ 200 := by rw [show (⟨#[91]⟩ : ByteArray) = bs [91] from rfl, bs_app, bs_size]; simp; omega
    repeat' (first
       | (with_reducible apply EvK.seq)
       | ((with_reducible apply EvK.text); (try case hm => exact rfl))
       | (with_reducible apply EvK.exit)
       | (with_reducible apply EvK.ret)
       | (with_reducible apply thenK_n)
       | (with_reducible apply thenK_e)
       | (with_reducible apply blockK_h)
       | ((with_reducible apply EvK.cond_f); (case hc => exact rfl))
       | ((with_reducible apply EvO.spd_f); (case hp => first | assumption | omega))
       | (with_reducible apply EvO.nilT)
       | ((with_reducible apply EvO.u0); (case hx => first
          | ((with_reducible apply OpR.mv); (conv => lhs; whnf); try exact rfl)
          | ((with_reducible apply OpR.asg); (conv => lhs; whnf); try exact rfl)
          | ((with_reducible apply OpR.callF); (case hcal => exact rfl); (case hav => exact rfl); (case hx => exact rfl); (case hh => exact rfl); (case hm => exact rfl); (case hcl => exact hj); (case hr => exact rfl))
          | ((with_reducible apply OpR.ads); (case hx => exact rfl); (case hy => exact rfl); (case h => first | assumption | omega))
          | exact OpR.r fun _ => rfl))
       | fail)
    refine ⟨.inr rfl, ?_⟩
    rw [h0]
    have e : bs (91 :: (numsT c ++ [93])) = (⟨#[91]⟩ ++ bs (numsT c)) ++ ⟨#[93]⟩ := by
      rw [show (⟨#[91]⟩ : ByteArray) = bs [91] from rfl, show (⟨#[93]⟩ : ByteArray) = bs [93] from rfl, bs_app, bs_app]; rfl
    rw [e]
    rfl
theorem rformat_c {c : List Int} (hv : validB c = true) : Cl cfg 72 [.t (intsA c)] [] (.t (.str (bs (fmtS c)))) [] := by
  have h5 : 1 ≤ c.length ∧ c.length ≤ 5 := by simp [validB] at hv; omega
  have hok : c.all ok1 = true := by simp only [validB, Bool.and_eq_true] at hv; exact hv.1.1
  have h0 : fmtS c = 91 :: (numsT c ++ [93]) := by simp [fmtS, hv]
  have hvc := rvalid_c (xs := c) (by omega)
  rw [hv] at hvc
  have hz2 : (⟨#[32]⟩ : ByteArray).size = 1 := rfl
  have hz3 : (⟨#[93]⟩ : ByteArray).size = 1 := rfl
  refine Cl.of_body rfl Tryz.func72 rfl rfl rfl ?_
  repeat' (first
     | (with_reducible apply EvK.seq)
     | (with_reducible apply EvK.block)
     | ((with_reducible apply EvK.text); (try case hm => exact rfl))
     | (with_reducible apply EvK.skip)
     | (with_reducible apply thenK_n)
     | ((with_reducible apply EvK.cond_f); (case hc => exact rfl))
     | (with_reducible apply EvO.nilT)
     | ((with_reducible apply EvO.u0); (case hx => first
        | ((with_reducible apply OpR.mv); (conv => lhs; whnf); try exact rfl)
        | ((with_reducible apply OpR.asg); (conv => lhs; whnf); try exact rfl)
        | ((with_reducible apply OpR.callF); (case hcal => exact rfl); (case hav => exact rfl); (case hx => exact rfl); (case hh => exact rfl); (case hm => exact rfl); (case hcl => exact hvc); (case hr => exact rfl))
        | exact OpR.r fun _ => rfl))
     | fail)
  apply EvK.loopV
  case ho => exact rfl
  case hp => exact rfl
  case hl => exact rfl
  case hs => repeat' (first | exact Slots.nil | (apply Slots.cons; (case hv => (conv => lhs; whnf); try exact rfl)))
  refine EvL.ind (fun s : Nat × ByteArray => [(3, .t (.str s.2)), (4, .t (.int .i64 (s.1 : Int)))]) (fun s => s.1 ≤ c.length ∧ s.2 = bs (91 :: numsT (c.take s.1))) (fun s => c.length - s.1) (0, ⟨#[91]⟩) rfl ⟨by simp, by simp [numsT, Lib.join_nil, bs]⟩ (fun s hs => ?_)
  obtain ⟨q, u⟩ := s
  obtain ⟨h1, h2⟩ := hs
  simp only at h1 h2
  have hok' : (c.take q).all ok1 = true := by
    rw [List.all_eq_true] at hok ⊢
    exact fun x hx => hok x (List.mem_of_mem_take hx)
  have hnl := numsT_len hok'
  have hul : u.size ≤ 100 := by rw [h2, bs_size]; simp at hnl ⊢; omega
  rcases Nat.lt_or_ge q c.length with h3 | h3
  ·
    obtain ⟨n, hn⟩ := get_of_lt h3
    have hc := intsE_get hn
    obtain ⟨n0, n1⟩ := ok1_at hv hn
    have hi := dec_c (n := n) n0 (by omega)
    have hil : (bs (Lib.itoa n)).size ≤ 4 := by rw [bs_size]; exact itoa_len n0 n1
    have hsn := numsT_snoc hn
    have hu2 : (u ++ (⟨#[32]⟩ : ByteArray)).size ≤ 101 := by rw [ByteArray.size_append]; omega
    rcases Nat.eq_zero_or_pos q with hq | hq
    ·
      rw [if_pos hq] at hsn
      dsimp only
      repeat' (first
         | (with_reducible apply EvK.seq)
         | (with_reducible apply EvK.block)
         | ((with_reducible apply EvK.text); (try case hm => exact rfl))
         | (with_reducible apply EvK.skip)
         | (with_reducible apply thenK_n)
         | ((with_reducible apply EvK.cond_t); (case hc => exact rfl))
         | ((with_reducible apply EvK.cond_f); (case hc => exact rfl))
         | ((with_reducible apply EvO.spd_t); (case hp => first | assumption | omega))
         | ((with_reducible apply EvO.spd_f); (case hp => first | assumption | omega))
         | (with_reducible apply EvO.nilT)
         | (with_reducible apply EvO.nilB)
         | ((with_reducible apply EvO.u0); (case hx => first
            | ((with_reducible apply OpR.mv); (conv => lhs; whnf); try exact rfl)
            | ((with_reducible apply OpR.asg); (conv => lhs; whnf); try exact rfl)
            | ((with_reducible apply OpR.callF); (case hcal => exact rfl); (case hav => exact rfl); (case hx => exact rfl); (case hh => exact rfl); (case hm => exact rfl); (case hcl => exact hi); (case hr => exact rfl))
            | ((with_reducible apply OpR.inc); (case hx => exact rfl); (case hy => exact rfl); (case h => omega))
            | ((with_reducible apply OpR.len); (case ha => exact rfl); (case hy => exact rfl); (case ht => exact rfl); (case hs => exact rfl); (case hn => first | exact List.length_map _ | exact rfl))
            | ((with_reducible apply OpR.ix); (case he => first | (with_reducible exact el0) | (with_reducible exact el1) | (with_reducible exact el2) | (with_reducible exact el3) | (with_reducible exact el4) | (with_reducible exact el5) | (with_reducible exact el6) | (with_reducible exact el7) | exact rfl); (case hx => exact rfl); (case hi => exact rfl); (case hc => assumption); (case hz => exact rfl))
            | ((with_reducible apply OpR.ads); (case hx => exact rfl); (case hy => exact rfl); (case h => first | assumption | omega))
            | exact OpR.r fun _ => rfl))
         | fail)
      refine ⟨(q + 1, _), rfl, rfl, ⟨by dsimp only; omega, ?_⟩, by dsimp only; omega⟩
      dsimp only
      rw [hsn, h2, bs_app]; rfl
    ·
      rw [if_neg (by omega)] at hsn
      dsimp only
      repeat' (first
         | (with_reducible apply EvK.seq)
         | (with_reducible apply EvK.block)
         | ((with_reducible apply EvK.text); (try case hm => exact rfl))
         | (with_reducible apply EvK.skip)
         | (with_reducible apply thenK_n)
         | ((with_reducible apply EvK.cond_t); (case hc => exact rfl))
         | ((with_reducible apply EvO.spd_t); (case hp => first | assumption | omega))
         | (with_reducible apply EvO.nilT)
         | (with_reducible apply EvO.nilB)
         | ((with_reducible apply EvO.u0); (case hx => first
            | ((with_reducible apply OpR.mv); (conv => lhs; whnf); try exact rfl)
            | ((with_reducible apply OpR.asg); (conv => lhs; whnf); try exact rfl)
            | ((with_reducible apply OpR.callF); (case hcal => exact rfl); (case hav => exact rfl); (case hx => exact rfl); (case hh => exact rfl); (case hm => exact rfl); (case hcl => exact hi); (case hr => exact rfl))
            | ((with_reducible apply OpR.inc); (case hx => exact rfl); (case hy => exact rfl); (case h => omega))
            | ((with_reducible apply OpR.len); (case ha => exact rfl); (case hy => exact rfl); (case ht => exact rfl); (case hs => exact rfl); (case hn => first | exact List.length_map _ | exact rfl))
            | ((with_reducible apply OpR.ix); (case he => first | (with_reducible exact el0) | (with_reducible exact el1) | (with_reducible exact el2) | (with_reducible exact el3) | (with_reducible exact el4) | (with_reducible exact el5) | (with_reducible exact el6) | (with_reducible exact el7) | exact rfl); (case hx => exact rfl); (case hi => exact rfl); (case hc => assumption); (case hz => exact rfl))
            | ((with_reducible apply OpR.ads); (case hx => exact rfl); (case hy => exact rfl); (case h => first | assumption | omega))
            | exact OpR.r fun _ => rfl))
         | fail)
      refine ⟨(q + 1, _), rfl, rfl, ⟨by dsimp only; omega, ?_⟩, by dsimp only; omega⟩
      dsimp only
      rw [hsn, h2, show (⟨#[32]⟩ : ByteArray) = bs [32] from rfl, bs_app, bs_app]
      simp
  ·
    rw [List.take_of_length_le h3] at h2
    dsimp only
    repeat' (first
       | (with_reducible apply EvK.seq)
       | ((with_reducible apply EvK.text); (try case hm => exact rfl))
       | (with_reducible apply EvK.exit)
       | (with_reducible apply EvK.ret)
       | (with_reducible apply thenK_n)
       | (with_reducible apply thenK_e)
       | (with_reducible apply blockK_h)
       | ((with_reducible apply EvK.cond_f); (case hc => exact rfl))
       | ((with_reducible apply EvO.spd_f); (case hp => first | assumption | omega))
       | (with_reducible apply EvO.nilT)
       | ((with_reducible apply EvO.u0); (case hx => first
          | ((with_reducible apply OpR.mv); (conv => lhs; whnf); try exact rfl)
          | ((with_reducible apply OpR.asg); (conv => lhs; whnf); try exact rfl)
          | ((with_reducible apply OpR.len); (case ha => exact rfl); (case hy => exact rfl); (case ht => exact rfl); (case hs => exact rfl); (case hn => first | exact List.length_map _ | exact rfl))
          | ((with_reducible apply OpR.ads); (case hx => exact rfl); (case hy => exact rfl); (case h => first | assumption | omega))
          | exact OpR.r fun _ => rfl))
       | fail)
    refine ⟨.inr rfl, ?_⟩
    have e : bs (91 :: (numsT c ++ [93])) = u ++ ⟨#[93]⟩ := by
      rw [h2, show (⟨#[93]⟩ : ByteArray) = bs [93] from rfl, bs_app]; rfl
    rw [h0, e]
    rfl
end Go.Proofs.YtgbfedgghjcdcaaGreatDoor
