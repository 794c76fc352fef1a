/- Law 52: clocks compared; sessions' clocks. No condition. -/
import Derived.Test.YtgbfedgghjcdcaaGreatDoorWA
import Derived.Test.YtgbfedgghjcdcaaGreatDoorTS
namespace Go.Proofs.YtgbfedgghjcdcaaGreatDoor
set_option linter.unusedSimpArgs false
set_option linter.unusedVariables false
set_option linter.unusedSectionVars false
open Go.RowKit
set_option maxRecDepth 100000

theorem has_c {a : List Int} {r n : Int} (ha : a.length ≤ 140737488351232) : Cl cfg 92 [.t (intsA a), .t (.agg [.int .i64 r, .int .i64 n])] [] (.t (.bool (hasS a r n))) [] := by
  refine Cl.of_body rfl Tryz.func92 rfl rfl rfl ?_
  by_cases hr : 0 ≤ r ∧ r < a.length
  ·
    obtain ⟨x, hx⟩ := get_of_lt (xs := a) (k := r.toNat) (by omega)
    have hc := intsE_get hx
    have hd := getD_get hx
    obtain ⟨h0, h1⟩ := hr
    repeat' (first
 | (with_reducible apply EvK.seq)
 | ((with_reducible apply EvK.text); (try case hm => exact rfl))
 | ((with_reducible apply EvK.drawn); (case hm => exact rfl))
 | (with_reducible apply EvK.ret)
 | ((with_reducible apply EvO.spb (b := validB _)) <;> intro hq)
 | ((with_reducible apply EvO.spd_yt); (case hp => first | assumption | omega))
 | ((with_reducible apply EvO.spd_y) <;> intro hq)
 | (with_reducible apply EvO.nilT)
 | ((with_reducible apply EvO.gf); (case hW => exact rfl))
 | ((with_reducible apply EvO.gt0); (case hW => exact rfl); (case hx => exact opq))
 | ((with_reducible apply EvO.u0); (case hx => first
 | ((with_reducible apply OpR.callF); (case hcal => exact rfl); (case hav => exact rfl); (case hx => exact rfl); (case hh => exact rfl); (case hm => exact rfl); (case hcl => exact valid_c ha); (case hr => exact rfl))
 | exact opq))
 | fail)
    all_goals (refine fin_b (.inr rfl) rfl ?_; rw [hasS, hd]; simp [*]; try omega)
  ·
    repeat' (first
 | (with_reducible apply EvK.seq)
 | ((with_reducible apply EvK.text); (try case hm => exact rfl))
 | ((with_reducible apply EvK.drawn); (case hm => exact rfl))
 | (with_reducible apply EvK.ret)
 | ((with_reducible apply EvO.spb (b := validB _)) <;> intro hq)
 | ((with_reducible apply EvO.spd_yf); (case hp => first | assumption | omega))
 | ((with_reducible apply EvO.spd_y) <;> intro hq)
 | (with_reducible apply EvO.nilT)
 | ((with_reducible apply EvO.gf); (case hW => exact rfl))
 | ((with_reducible apply EvO.gt0); (case hW => exact rfl); (case hx => exact opq))
 | ((with_reducible apply EvO.u0); (case hx => first
 | ((with_reducible apply OpR.callF); (case hcal => exact rfl); (case hav => exact rfl); (case hx => exact rfl); (case hh => exact rfl); (case hm => exact rfl); (case hcl => exact valid_c ha); (case hr => exact rfl))
 | exact opq))
 | fail)
    all_goals (refine fin_b (.inr rfl) rfl ?_; simp [hasS, *]; try omega)
end Go.Proofs.YtgbfedgghjcdcaaGreatDoor

namespace Go.Proofs.YtgbfedgghjcdcaaGreatDoor
set_option linter.unusedSimpArgs false
set_option linter.unusedVariables false
set_option linter.unusedSectionVars false
open Go.RowKit
set_option maxRecDepth 100000

def evCs (e : Ev) : List AV := [.int .i64 e.r, .int .i64 e.n, .int .i64 e.t, intsA e.past, .int .i64 e.k, .int .i64 e.a, .int .i64 e.gk, .int .i64 e.gi, .int .i64 e.ge, .int .i64 e.ga, .int .i64 e.to, .int .i64 e.pl, .int .i64 e.se]
def evA (e : Ev) : AV := .agg (evCs e)
theorem equalint_c {xs ys : List Int} (hl : xs.length ≤ 140737488351232) (hm : ys.length ≤ 140737488351232) : Cl cfg 36 [.t (intsA xs), .t (intsA ys)] [] (.t (.bool (xs == ys))) [] := by
  refine Cl.of_body rfl Tryz.func36 rfl rfl rfl ?_
  by_cases hlen : xs.length = ys.length
  ·
    repeat' (first
 | (with_reducible apply EvK.seq)
 | (with_reducible apply EvK.block)
 | ((with_reducible apply EvK.text); (try case hm => exact rfl))
 | (with_reducible apply EvK.skip)
 | (with_reducible apply thenK_n)
 | ((with_reducible apply EvK.cond_f); (case hc => exact rfl))
 | ((with_reducible apply EvO.spn_f); (case hp => first | assumption | omega))
 | (with_reducible apply EvO.nilT)
 | ((with_reducible apply EvO.u0); (case hx => exact opq))
 | fail)
    apply EvK.loopV
    case ho => exact rfl
    case hp => exact rfl
    case hl => exact rfl
    case hs => repeat' (first | exact Slots.nil | (apply Slots.cons; (case hv => (conv => lhs; whnf); try exact rfl)))
    refine EvL.ind (fun q : Nat => [(13, .t (.int .i64 (q : Int)))]) (fun q => q ≤ xs.length ∧ xs.take q = ys.take q) (fun q => xs.length - q) 0 rfl (by simp) (fun q hq => ?_)
    obtain ⟨h1, h2⟩ := hq
    rcases Nat.lt_or_ge q xs.length with h3 | h3
    ·
      obtain ⟨n, hn⟩ := get_of_lt h3
      obtain ⟨m, hm'⟩ := get_of_lt (xs := ys) (k := q) (by omega)
      have hc := intsE_get hn
      have hd := intsE_get hm'
      repeat' (first
 | (with_reducible apply EvK.seq)
 | (with_reducible apply EvK.block)
 | ((with_reducible apply EvK.text); (try case hm => exact rfl))
 | ((with_reducible apply EvK.drawn); (case hm => exact rfl))
 | (with_reducible apply EvK.skip)
 | (with_reducible apply EvK.ret)
 | (with_reducible apply thenK_n)
 | (with_reducible apply thenK_r)
 | (with_reducible apply blockK_n)
 | (with_reducible apply blockK_r)
 | ((with_reducible apply EvK.cond_t); (case hc => exact rfl))
 | ((with_reducible apply EvK.cond_f); (case hc => exact rfl))
 | ((with_reducible apply EvO.spd_t); (case hp => first | assumption | omega))
 | ((with_reducible apply EvO.spn) <;> intro hq)
 | (with_reducible apply EvO.nilT)
 | ((with_reducible apply EvO.u0); (case hx => exact opq))
 | fail)
      all_goals first
        | (refine fin_b (.inr rfl) rfl ?_)
        | (refine ⟨q + 1, rfl, rfl, ⟨by omega, ?_⟩, by omega⟩)
      all_goals first
        | (rw [List.take_add_one, List.take_add_one, h2, hn, hm']; simp_all; done)
        | (symm; rw [beq_eq_false_iff_ne]; rintro rfl; rw [hn] at hm'; cases hm'; omega)
    ·
      rw [List.take_of_length_le h3, List.take_of_length_le (by omega)] at h2
      repeat' (first
 | (with_reducible apply EvK.seq)
 | ((with_reducible apply EvK.text); (try case hm => exact rfl))
 | (with_reducible apply EvK.exit)
 | (with_reducible apply EvK.ret)
 | (with_reducible apply thenK_n)
 | (with_reducible apply thenK_e)
 | (with_reducible apply blockK_h)
 | ((with_reducible apply EvK.cond_f); (case hc => exact rfl))
 | ((with_reducible apply EvO.spd_f); (case hp => first | assumption | omega))
 | (with_reducible apply EvO.nilT)
 | ((with_reducible apply EvO.u0); (case hx => exact opq))
 | fail)
      all_goals (refine fin_b (.inr rfl) rfl ?_; rw [h2]; simp)
  ·
    repeat' (first
 | (with_reducible apply EvK.seq)
 | ((with_reducible apply EvK.text); (try case hm => exact rfl))
 | (with_reducible apply EvK.ret)
 | (with_reducible apply thenK_r)
 | ((with_reducible apply EvK.cond_t); (case hc => exact rfl))
 | ((with_reducible apply EvO.spn_t); (case hp => first | assumption | omega))
 | (with_reducible apply EvO.nilT)
 | ((with_reducible apply EvO.u0); (case hx => exact opq))
 | fail)
    all_goals (refine fin_b (.inr rfl) rfl ?_; symm; rw [beq_eq_false_iff_ne]; rintro rfl; exact hlen rfl)
end Go.Proofs.YtgbfedgghjcdcaaGreatDoor

namespace Go.Proofs.YtgbfedgghjcdcaaGreatDoor
set_option linter.unusedSimpArgs false
set_option linter.unusedVariables false
set_option linter.unusedSectionVars false
open Go.RowKit
set_option maxRecDepth 100000
theorem need_eq (a b c d : Int) : eqC cfg.P 20 34 [.int .i64 a, .int .i64 b, .int .i64 c, .int .i64 d] [.int .i64 0, .int .i64 0, .int .i64 0, .int .i64 0] = some ((decide (a = 0) && (decide (b = 0) && (decide (c = 0) && true))) && (decide (d = 0) && true)) := by kernel_rfl
theorem need_g : cfg.P.eqGuardType cfg.P.depth 34 = false := by kernel_rfl
end Go.Proofs.YtgbfedgghjcdcaaGreatDoor

namespace Go.Proofs.YtgbfedgghjcdcaaGreatDoor
set_option linter.unusedSimpArgs false
set_option linter.unusedVariables false
set_option linter.unusedSectionVars false
open Go.RowKit
set_option maxRecDepth 100000
set_option maxHeartbeats 4000000

theorem forms_c (e : Ev) : Cl cfg 53 [.t (evA e)] [] (.lm 0) [.map false [.int .i64 0, .int .i64 1, .int .i64 2] [.fn (.func 102) 0 [.lp 1 0], .fn (.func 103) 0 [.lp 1 0], .fn (.func 104) 0 [.lp 1 0]], .box false 36 ((evCs e).map .t)] := ⟨3, by kernel_rfl⟩
theorem betB_c (n l h : Int) : Cl cfg 52 [.t (.int .i64 n), .t (.int .i64 l), .t (.int .i64 h)] [] (.t (.bool (betB n l h))) [] := between_c n l h
def bodyCs (a gk gi ge ga to pl se : Int) : List SV := [.t (.int .i64 0), .t (.int .i64 0), .t (.int .i64 0), .nil, .t (.int .i64 0), .t (.int .i64 a), .t (.int .i64 gk), .t (.int .i64 gi), .t (.int .i64 ge), .t (.int .i64 ga), .t (.int .i64 to), .t (.int .i64 pl), .t (.int .i64 se)]
section
variable (e : Ev) (a gk gi ge ga to pl se : Int)
theorem form1_c : Cl cfg 102 [.lp 0 0, .t (.tp (evCs e))] [.box false 36 (bodyCs a gk gi ge ga to pl se)] (.t (.bool (actF e))) [.box false 36 (bodyCs 0 gk gi ge ga to 0 0)] := by
  refine Cl.of_body rfl Tryz.func102 rfl rfl rfl ?_
  repeat' (first
 | (with_reducible apply EvK.seq)
 | ((with_reducible apply EvK.text); (try case hm => exact rfl))
 | (with_reducible apply EvK.ret)
 | ((with_reducible apply EvO.spb (b := betB _ _ _)) <;> intro hq)
 | ((with_reducible apply EvO.spb_y (b := betB _ _ _)) <;> intro hq)
 | (with_reducible apply EvO.nilT)
 | ((with_reducible apply EvO.gf); (case hW => exact rfl))
 | ((with_reducible apply EvO.gt0); (case hW => exact rfl); (case hx => first
 | ((with_reducible apply OpR.callF); (case hcal => exact rfl); (case hav => exact rfl); (case hx => exact rfl); (case hh => exact rfl); (case hm => exact rfl); (case hcl => exact betB_c _ _ _); (case hr => exact rfl))
 | exact opq))
 | ((with_reducible apply EvO.u0); (case hx => first
 | ((with_reducible apply OpR.callF); (case hcal => exact rfl); (case hav => exact rfl); (case hx => exact rfl); (case hh => exact rfl); (case hm => exact rfl); (case hcl => exact betB_c _ _ _); (case hr => exact rfl))
 | exact opq))
 | fail)
  all_goals (refine fin_b (.inr rfl) rfl ?_; simp [actF, *])
theorem form3_c : Cl cfg 104 [.lp 0 0, .t (.tp (evCs e))] [.box false 36 (bodyCs a gk gi ge ga to pl se)] (.t (.bool (noteF e))) [.box false 36 (bodyCs a gk gi ge ga to 0 0)] := by
  refine Cl.of_body rfl Tryz.func104 rfl rfl rfl ?_
  repeat' (first
 | (with_reducible apply EvK.seq)
 | ((with_reducible apply EvK.text); (try case hm => exact rfl))
 | (with_reducible apply EvK.ret)
 | ((with_reducible apply EvO.spb (b := betB _ _ _)) <;> intro hq)
 | ((with_reducible apply EvO.spb_y (b := betB _ _ _)) <;> intro hq)
 | (with_reducible apply EvO.nilT)
 | ((with_reducible apply EvO.gf); (case hW => exact rfl))
 | ((with_reducible apply EvO.gt0); (case hW => exact rfl); (case hx => first
 | ((with_reducible apply OpR.callF); (case hcal => exact rfl); (case hav => exact rfl); (case hx => exact rfl); (case hh => exact rfl); (case hm => exact rfl); (case hcl => exact betB_c _ _ _); (case hr => exact rfl))
 | exact opq))
 | ((with_reducible apply EvO.u0); (case hx => first
 | ((with_reducible apply OpR.callF); (case hcal => exact rfl); (case hav => exact rfl); (case hx => exact rfl); (case hh => exact rfl); (case hm => exact rfl); (case hcl => exact betB_c _ _ _); (case hr => exact rfl))
 | exact opq))
 | fail)
  all_goals (refine fin_b (.inr rfl) rfl ?_; simp [noteF, *])
theorem form2_c (hl : e.past.length ≤ 140737488351232) : Cl cfg 103 [.lp 0 0, .t (.tp (evCs e))] [.box false 36 (bodyCs a gk gi ge ga to pl se)] (.t (.bool (giveF e))) [.box false 36 (bodyCs a 0 0 0 0 0 pl se)] := by
  refine Cl.of_body rfl Tryz.func103 rfl rfl rfl ?_
  repeat' (first
 | (with_reducible apply EvK.seq)
 | ((with_reducible apply EvK.text); (try case hm => exact rfl))
 | (with_reducible apply EvK.skip)
 | (with_reducible apply EvK.ret)
 | (with_reducible apply thenK_n)
 | ((with_reducible apply EvK.cond_t); (case hc => exact rfl))
 | ((with_reducible apply EvK.cond_f); (case hc => exact rfl))
 | ((with_reducible apply EvO.spd) <;> intro hq)
 | ((with_reducible apply EvO.spb (b := betB _ _ _)) <;> intro hq)
 | ((with_reducible apply EvO.spn_y) <;> intro hq)
 | ((with_reducible apply EvO.spb_y (b := betB _ _ _)) <;> intro hq)
 | (with_reducible apply EvO.nilT)
 | ((with_reducible apply EvO.gf); (case hW => exact rfl))
 | ((with_reducible apply EvO.gt0); (case hW => exact rfl); (case hx => first
 | ((with_reducible apply OpR.callF); (case hcal => exact rfl); (case hav => exact rfl); (case hx => exact rfl); (case hh => exact rfl); (case hm => exact rfl); (case hcl => exact betB_c _ _ _); (case hr => exact rfl))
 | exact opq))
 | ((with_reducible apply EvO.u0); (case hx => first
 | ((with_reducible apply OpR.callF); (case hcal => exact rfl); (case hav => exact rfl); (case hx => exact rfl); (case hh => exact rfl); (case hm => exact rfl); (case hcl => exact betB_c _ _ _); (case hr => exact rfl))
 | exact opq))
 | fail)
  all_goals (refine fin_b (.inr rfl) rfl ?_; simp_all [giveF])
end
def evEq (e f : Ev) : Bool := decide (e.r = f.r) && (decide (e.n = f.n) && (decide (e.t = f.t) && ((e.past == f.past) && (decide (e.k = f.k) && (decide (e.a = f.a) && ((decide (e.gk = f.gk) && (decide (e.gi = f.gi) && (decide (e.ge = f.ge) && decide (e.ga = f.ga)))) && (decide (e.to = f.to) && (decide (e.pl = f.pl) && decide (e.se = f.se)))))))))
theorem need_eq2 (a b c d a' b' c' d' : Int) : eqC cfg.P 20 34 [.int .i64 a, .int .i64 b, .int .i64 c, .int .i64 d] [.int .i64 a', .int .i64 b', .int .i64 c', .int .i64 d'] = some ((decide (a = a') && (decide (b = b') && (decide (c = c') && true))) && (decide (d = d') && true)) := by kernel_rfl
theorem equal_c (e f : Ev) (he : e.past.length ≤ 140737488351232) (hf : f.past.length ≤ 140737488351232) : Cl cfg 54 [.t (evA e), .t (evA f)] [] (.t (.bool (evEq e f))) [] := by
  refine Cl.of_body rfl Tryz.func54 rfl rfl rfl ?_
  repeat' (first
 | (with_reducible apply EvK.seq)
 | ((with_reducible apply EvK.text); (try case hm => exact rfl))
 | (with_reducible apply EvO.apc)
 | (with_reducible apply EvO.apn)
 | (with_reducible apply EvK.ret)
 | ((with_reducible apply EvO.spd) <;> intro hq)
 | ((with_reducible apply EvO.spd_y) <;> intro hq)
 | ((with_reducible apply EvO.spb_y (b := _ == _)) <;> intro hq)
 | ((with_reducible apply EvO.spb_y (b := _ && _)) <;> intro hq)
 | (with_reducible apply EvO.nilT)
 | ((with_reducible apply EvO.gf); (case hW => exact rfl))
 | ((with_reducible apply EvO.gt0); (case hW => exact rfl); (case hx => first
 | ((with_reducible apply OpR.eqs); (case hx => exact rfl); (case hy => exact rfl); (case hg => exact need_g); (case ht => exact rfl); (case hr => exact need_eq2 _ _ _ _ _ _ _ _))
 | ((with_reducible apply OpR.callF); (case hcal => exact rfl); (case hav => exact rfl); (case hx => exact rfl); (case hh => exact rfl); (case hm => exact rfl); (case hcl => exact equalint_c he hf); (case hr => exact rfl))
 | exact opq))
 | ((with_reducible apply EvO.u0); (case hx => exact opq))
 | fail)
  all_goals (refine fin_b (.inr rfl) rfl ?_; simp_all [evEq])
end Go.Proofs.YtgbfedgghjcdcaaGreatDoor

namespace Go.Proofs.YtgbfedgghjcdcaaGreatDoor
set_option linter.unusedSimpArgs false
set_option linter.unusedVariables false
set_option linter.unusedSectionVars false
open Go.RowKit
set_option maxRecDepth 100000
set_option maxHeartbeats 2000000

abbrev evZ : Ev := ⟨0, 0, 0, [], 0, 0, 0, 0, 0, 0, 0, 0, 0⟩
theorem evEq0 (e : Ev) : evEq ⟨0, 0, 0, [], 0, 0, e.gk, e.gi, e.ge, e.ga, e.to, 0, 0⟩ evZ = giveZ e := by
  rw [Bool.eq_iff_iff]; simp [evEq, giveZ, and_assoc]
theorem evEq1 (e : Ev) : evEq ⟨0, 0, 0, [], 0, e.a, 0, 0, 0, 0, 0, e.pl, e.se⟩ evZ = (decide (e.a = 0) && (decide (e.pl = 0) && decide (e.se = 0))) := by
  rw [Bool.eq_iff_iff]; simp [evEq]
theorem evEq2 (e : Ev) : evEq ⟨0, 0, 0, [], 0, e.a, e.gk, e.gi, e.ge, e.ga, e.to, 0, 0⟩ evZ = (decide (e.a = 0) && giveZ e) := by
  rw [Bool.eq_iff_iff]; simp [evEq, giveZ, and_assoc]
def findK (k : Int) : Option (Option Nat) := findA (.int .i64) (.int .i64 k) [.int .i64 0, .int .i64 1, .int .i64 2] 0
theorem findK_0 {k : Int} (h : k = 0) : findK k = some (some 0) := by subst h; rfl
theorem findK_1 {k : Int} (h : k = 1) : findK k = some (some 1) := by subst h; rfl
theorem findK_2 {k : Int} (h : k = 2) : findK k = some (some 2) := by subst h; rfl
theorem findK_n {k : Int} (h0 : k ≠ 0) (h1 : k ≠ 1) (h2 : k ≠ 2) : findK k = some none := by simp [findK, findA, eqLeaf, h0, h1, h2]
theorem formed_c (e : Ev) (hl : e.past.length ≤ 140737488351232) : Cl cfg 12 [.t (evA e)] [] (.t (.bool (formB e))) [] := by
  refine Cl.of_body rfl Tryz.func12 rfl rfl rfl ?_
  have hvc := valid_c hl
  cases hv : validB e.past with
  | false =>
    rw [hv] at hvc
    repeat' (first
 | (with_reducible apply EvK.seq)
 | ((with_reducible apply EvK.text); (try case hm => exact rfl))
 | ((with_reducible apply EvK.drawn); (case hm => exact rfl))
 | (with_reducible apply EvK.ret)
 | (with_reducible apply thenK_r)
 | ((with_reducible apply EvK.cond_t); (case hc => exact rfl))
 | (with_reducible apply EvO.nilT)
 | ((with_reducible apply EvO.gf); (case hW => exact rfl))
 | ((with_reducible apply EvO.u0); (case hx => first
 | ((with_reducible apply OpR.callF); (case hcal => exact rfl); (case hav => exact rfl); (case hx => exact rfl); (case hh => exact rfl); (case hm => exact rfl); (case hcl => exact hvc); (case hr => exact rfl))
 | exact opq))
 | fail)
    all_goals (refine fin_b (.inr rfl) rfl ?_; simp [formB, headOk, hv])
  | true =>
    rw [hv] at hvc
    cases hb : betB e.r 0 ((e.past.length : Int) - 1) with
    | false =>
      have hbc := betB_c e.r 0 ((e.past.length : Int) - 1)
      rw [hb] at hbc
      repeat' (first
 | (with_reducible apply EvK.seq)
 | ((with_reducible apply EvK.text); (try case hm => exact rfl))
 | ((with_reducible apply EvK.drawn); (case hm => exact rfl))
 | (with_reducible apply EvK.ret)
 | (with_reducible apply thenK_r)
 | ((with_reducible apply EvK.cond_t); (case hc => exact rfl))
 | (with_reducible apply EvO.nilT)
 | ((with_reducible apply EvO.gf); (case hW => exact rfl))
 | ((with_reducible apply EvO.gt0); (case hW => exact rfl); (case hx => first
 | ((with_reducible apply OpR.callF); (case hcal => exact rfl); (case hav => exact rfl); (case hx => exact rfl); (case hh => exact rfl); (case hm => exact rfl); (case hcl => exact hbc); (case hr => exact rfl))
 | exact opq))
 | ((with_reducible apply EvO.u0); (case hx => first
 | ((with_reducible apply OpR.callF); (case hcal => exact rfl); (case hav => exact rfl); (case hx => exact rfl); (case hh => exact rfl); (case hm => exact rfl); (case hcl => exact hvc); (case hr => exact rfl))
 | exact opq))
 | fail)
      all_goals (refine fin_b (.inr rfl) rfl ?_; simp [formB, headOk, hv, hb])
    | true =>
      have hbc := betB_c e.r 0 ((e.past.length : Int) - 1)
      rw [hb] at hbc
      have hr : 0 ≤ e.r ∧ e.r < e.past.length := by simp [betB] at hb; omega
      obtain ⟨h0, h1⟩ := hr
      obtain ⟨x, hx⟩ := get_of_lt (xs := e.past) (k := e.r.toNat) (by omega)
      have hc := intsE_get hx
      have hd := getD_get hx
      have hx2 := ok1_at hv hx
      repeat' (first
 | (with_reducible apply EvK.seq)
 | ((with_reducible apply EvK.text); (try case hm => exact rfl))
 | ((with_reducible apply EvK.drawn); (case hm => exact rfl))
 | (with_reducible apply EvK.skip)
 | (with_reducible apply EvK.ret)
 | (with_reducible apply thenK_n)
 | (with_reducible apply thenK_r)
 | ((with_reducible apply EvK.cond_t); (case hc => exact rfl))
 | ((with_reducible apply EvK.cond_f); (case hc => exact rfl))
 | ((with_reducible apply EvO.spd_y) <;> intro hq)
 | ((with_reducible apply EvO.spn_y) <;> intro hq)
 | ((with_reducible apply EvO.spb_y (b := betB _ _ _)) <;> intro hq)
 | (with_reducible apply EvO.nilT)
 | ((with_reducible apply EvO.gf); (case hW => exact rfl))
 | ((with_reducible apply EvO.gt0); (case hW => exact rfl); (case hx => first
 | ((with_reducible apply OpR.callF); (case hcal => exact rfl); (case hav => exact rfl); (case hx => exact rfl); (case hh => exact rfl); (case hm => exact rfl); (case hcl => exact hbc); (case hr => exact rfl))
 | ((with_reducible apply OpR.callF); (case hcal => exact rfl); (case hav => exact rfl); (case hx => exact rfl); (case hh => exact rfl); (case hm => exact rfl); (case hcl => exact betB_c _ _ _); (case hr => exact rfl))
 | exact opq))
 | ((with_reducible apply EvO.u0); (case hx => first
 | ((with_reducible apply OpR.callF); (case hcal => exact rfl); (case hav => exact rfl); (case hx => exact rfl); (case hh => exact rfl); (case hm => exact rfl); (case hcl => exact hvc); (case hr => exact rfl))
 | ((with_reducible apply OpR.call); (case hcal => exact rfl); (case hav => exact rfl); (case hx => exact rfl); (case hh => exact rfl); (case hm => exact rfl); (case hcl => exact forms_c e); (case hr => exact rfl))
 | exact opq))
 | fail)
      all_goals first
        | (refine fin_b (.inr rfl) rfl ?_; rw [formB, headOk, hd]; simp [*]; first | done | omega)
        | skip
      have hH : headOk e = true := by rw [headOk, hd]; simp [*]; omega
      by_cases k0 : e.k = 0
      ·
        repeat' (first
 | (with_reducible apply EvK.seq)
 | ((with_reducible apply EvK.text); (try case hm => exact rfl))
 | (with_reducible apply EvK.skip)
 | (with_reducible apply EvK.ret)
 | (with_reducible apply thenK_n)
 | ((with_reducible apply EvK.cond_f); (case hc => exact rfl))
 | ((with_reducible apply EvO.spb (b := actF _)) <;> intro hq)
 | ((with_reducible apply EvO.spb_y (b := evEq _ _)) <;> intro hq)
 | (with_reducible apply EvO.nilT)
 | ((with_reducible apply EvO.gf); (case hW => exact rfl))
 | ((with_reducible apply EvO.gt0); (case hW => exact rfl); (case hx => first
 | ((with_reducible apply OpR.bld (parts := #[]) (cs := [.t (.int .i64 0), .t (.int .i64 0), .t (.int .i64 0), .nil, .t (.int .i64 0), .t (.int .i64 0), .t (.int .i64 0), .t (.int .i64 0), .t (.int .i64 0), .t (.int .i64 0), .t (.int .i64 0), .t (.int .i64 0), .t (.int .i64 0)]) (v := .agg [.t (.int .i64 0), .t (.int .i64 0), .t (.int .i64 0), .nil, .t (.int .i64 0), .t (.int .i64 0), .t (.int .i64 0), .t (.int .i64 0), .t (.int .i64 0), .t (.int .i64 0), .t (.int .i64 0), .t (.int .i64 0), .t (.int .i64 0)])); (case ho => kernel_rfl); (case h => kernel_rfl); (case hv => kernel_rfl))
 | ((with_reducible apply OpR.callF); (case hcal => exact rfl); (case hav => exact rfl); (case hx => exact rfl); (case hh => exact rfl); (case hm => exact rfl); (case hcl => exact equal_c ⟨0, 0, 0, [], 0, 0, e.gk, e.gi, e.ge, e.ga, e.to, 0, 0⟩ evZ (by simp) (by simp [evZ])); (case hr => exact rfl))
 | exact opq))
 | ((with_reducible apply EvO.u0); (case hx => first
 | ((with_reducible apply OpR.lki); (case hm => exact rfl); (case hk => exact rfl); (case ho => exact rfl); (case hf => exact findK_0 k0); (case hz => exact rfl))
 | ((with_reducible apply OpR.bld (cs := [.t (.int .i64 0), .t (.int .i64 0), .t (.int .i64 0), .nil, .t (.int .i64 0), .t (.int .i64 e.a), .t (.int .i64 e.gk), .t (.int .i64 e.gi), .t (.int .i64 e.ge), .t (.int .i64 e.ga), .t (.int .i64 e.to), .t (.int .i64 e.pl), .t (.int .i64 e.se)]) (v := .agg [.t (.int .i64 0), .t (.int .i64 0), .t (.int .i64 0), .nil, .t (.int .i64 0), .t (.int .i64 e.a), .t (.int .i64 e.gk), .t (.int .i64 e.gi), .t (.int .i64 e.ge), .t (.int .i64 e.ga), .t (.int .i64 e.to), .t (.int .i64 e.pl), .t (.int .i64 e.se)])); (case ho => kernel_rfl); (case h => kernel_rfl); (case hv => kernel_rfl))
 | ((with_reducible apply OpR.callP [1]); (case hdr => exact rfl); (case hcal => exact rfl); (case hav => exact rfl); (case hx => exact rfl); (case hh => exact rfl); (case hs0 => kernel_rfl); (case hf => kernel_rfl); (case hg => exact rfl); (case hc => kernel_rfl); (case hm => exact rfl); (case hb => exact rfl); (case hcl => exact form1_c e _ _ _ _ _ _ _ _); (case hk => exact rfl); (case hr => exact rfl))
 | exact opq))
 | fail)
        all_goals (refine fin_b (.inr rfl) rfl ?_; clear hvc hbc; (try simp only [evEq0, evEq1, evEq2] at *); rw [formB, hH]; simp only [*]; simp)
      by_cases k1 : e.k = 1
      ·
        repeat' (first
 | (with_reducible apply EvK.seq)
 | ((with_reducible apply EvK.text); (try case hm => exact rfl))
 | (with_reducible apply EvK.skip)
 | (with_reducible apply EvK.ret)
 | (with_reducible apply thenK_n)
 | ((with_reducible apply EvK.cond_f); (case hc => exact rfl))
 | ((with_reducible apply EvO.spb (b := giveF _)) <;> intro hq)
 | ((with_reducible apply EvO.spb_y (b := evEq _ _)) <;> intro hq)
 | (with_reducible apply EvO.nilT)
 | ((with_reducible apply EvO.gf); (case hW => exact rfl))
 | ((with_reducible apply EvO.gt0); (case hW => exact rfl); (case hx => first
 | ((with_reducible apply OpR.bld (parts := #[]) (cs := [.t (.int .i64 0), .t (.int .i64 0), .t (.int .i64 0), .nil, .t (.int .i64 0), .t (.int .i64 0), .t (.int .i64 0), .t (.int .i64 0), .t (.int .i64 0), .t (.int .i64 0), .t (.int .i64 0), .t (.int .i64 0), .t (.int .i64 0)]) (v := .agg [.t (.int .i64 0), .t (.int .i64 0), .t (.int .i64 0), .nil, .t (.int .i64 0), .t (.int .i64 0), .t (.int .i64 0), .t (.int .i64 0), .t (.int .i64 0), .t (.int .i64 0), .t (.int .i64 0), .t (.int .i64 0), .t (.int .i64 0)])); (case ho => kernel_rfl); (case h => kernel_rfl); (case hv => kernel_rfl))
 | ((with_reducible apply OpR.callF); (case hcal => exact rfl); (case hav => exact rfl); (case hx => exact rfl); (case hh => exact rfl); (case hm => exact rfl); (case hcl => exact equal_c ⟨0, 0, 0, [], 0, e.a, 0, 0, 0, 0, 0, e.pl, e.se⟩ evZ (by simp) (by simp [evZ])); (case hr => exact rfl))
 | exact opq))
 | ((with_reducible apply EvO.u0); (case hx => first
 | ((with_reducible apply OpR.lki); (case hm => exact rfl); (case hk => exact rfl); (case ho => exact rfl); (case hf => exact findK_1 k1); (case hz => exact rfl))
 | ((with_reducible apply OpR.bld (cs := [.t (.int .i64 0), .t (.int .i64 0), .t (.int .i64 0), .nil, .t (.int .i64 0), .t (.int .i64 e.a), .t (.int .i64 e.gk), .t (.int .i64 e.gi), .t (.int .i64 e.ge), .t (.int .i64 e.ga), .t (.int .i64 e.to), .t (.int .i64 e.pl), .t (.int .i64 e.se)]) (v := .agg [.t (.int .i64 0), .t (.int .i64 0), .t (.int .i64 0), .nil, .t (.int .i64 0), .t (.int .i64 e.a), .t (.int .i64 e.gk), .t (.int .i64 e.gi), .t (.int .i64 e.ge), .t (.int .i64 e.ga), .t (.int .i64 e.to), .t (.int .i64 e.pl), .t (.int .i64 e.se)])); (case ho => kernel_rfl); (case h => kernel_rfl); (case hv => kernel_rfl))
 | ((with_reducible apply OpR.callP [1]); (case hdr => exact rfl); (case hcal => exact rfl); (case hav => exact rfl); (case hx => exact rfl); (case hh => exact rfl); (case hs0 => kernel_rfl); (case hf => kernel_rfl); (case hg => exact rfl); (case hc => kernel_rfl); (case hm => exact rfl); (case hb => exact rfl); (case hcl => exact form2_c e _ _ _ _ _ _ _ _ hl); (case hk => exact rfl); (case hr => exact rfl))
 | exact opq))
 | fail)
        all_goals (refine fin_b (.inr rfl) rfl ?_; clear hvc hbc; (try simp only [evEq0, evEq1, evEq2] at *); rw [formB, hH]; simp only [*]; simp)
      by_cases k2 : e.k = 2
      ·
        repeat' (first
 | (with_reducible apply EvK.seq)
 | ((with_reducible apply EvK.text); (try case hm => exact rfl))
 | (with_reducible apply EvK.skip)
 | (with_reducible apply EvK.ret)
 | (with_reducible apply thenK_n)
 | ((with_reducible apply EvK.cond_f); (case hc => exact rfl))
 | ((with_reducible apply EvO.spb (b := noteF _)) <;> intro hq)
 | ((with_reducible apply EvO.spb_y (b := evEq _ _)) <;> intro hq)
 | (with_reducible apply EvO.nilT)
 | ((with_reducible apply EvO.gf); (case hW => exact rfl))
 | ((with_reducible apply EvO.gt0); (case hW => exact rfl); (case hx => first
 | ((with_reducible apply OpR.bld (parts := #[]) (cs := [.t (.int .i64 0), .t (.int .i64 0), .t (.int .i64 0), .nil, .t (.int .i64 0), .t (.int .i64 0), .t (.int .i64 0), .t (.int .i64 0), .t (.int .i64 0), .t (.int .i64 0), .t (.int .i64 0), .t (.int .i64 0), .t (.int .i64 0)]) (v := .agg [.t (.int .i64 0), .t (.int .i64 0), .t (.int .i64 0), .nil, .t (.int .i64 0), .t (.int .i64 0), .t (.int .i64 0), .t (.int .i64 0), .t (.int .i64 0), .t (.int .i64 0), .t (.int .i64 0), .t (.int .i64 0), .t (.int .i64 0)])); (case ho => kernel_rfl); (case h => kernel_rfl); (case hv => kernel_rfl))
 | ((with_reducible apply OpR.callF); (case hcal => exact rfl); (case hav => exact rfl); (case hx => exact rfl); (case hh => exact rfl); (case hm => exact rfl); (case hcl => exact equal_c ⟨0, 0, 0, [], 0, e.a, e.gk, e.gi, e.ge, e.ga, e.to, 0, 0⟩ evZ (by simp) (by simp [evZ])); (case hr => exact rfl))
 | exact opq))
 | ((with_reducible apply EvO.u0); (case hx => first
 | ((with_reducible apply OpR.lki); (case hm => exact rfl); (case hk => exact rfl); (case ho => exact rfl); (case hf => exact findK_2 k2); (case hz => exact rfl))
 | ((with_reducible apply OpR.bld (cs := [.t (.int .i64 0), .t (.int .i64 0), .t (.int .i64 0), .nil, .t (.int .i64 0), .t (.int .i64 e.a), .t (.int .i64 e.gk), .t (.int .i64 e.gi), .t (.int .i64 e.ge), .t (.int .i64 e.ga), .t (.int .i64 e.to), .t (.int .i64 e.pl), .t (.int .i64 e.se)]) (v := .agg [.t (.int .i64 0), .t (.int .i64 0), .t (.int .i64 0), .nil, .t (.int .i64 0), .t (.int .i64 e.a), .t (.int .i64 e.gk), .t (.int .i64 e.gi), .t (.int .i64 e.ge), .t (.int .i64 e.ga), .t (.int .i64 e.to), .t (.int .i64 e.pl), .t (.int .i64 e.se)])); (case ho => kernel_rfl); (case h => kernel_rfl); (case hv => kernel_rfl))
 | ((with_reducible apply OpR.callP [1]); (case hdr => exact rfl); (case hcal => exact rfl); (case hav => exact rfl); (case hx => exact rfl); (case hh => exact rfl); (case hs0 => kernel_rfl); (case hf => kernel_rfl); (case hg => exact rfl); (case hc => kernel_rfl); (case hm => exact rfl); (case hb => exact rfl); (case hcl => exact form3_c e _ _ _ _ _ _ _ _); (case hk => exact rfl); (case hr => exact rfl))
 | exact opq))
 | fail)
        all_goals (refine fin_b (.inr rfl) rfl ?_; clear hvc hbc; (try simp only [evEq0, evEq1, evEq2] at *); rw [formB, hH]; simp only [*]; simp)
      repeat' (first
 | (with_reducible apply EvK.seq)
 | ((with_reducible apply EvK.text); (try case hm => exact rfl))
 | (with_reducible apply EvK.ret)
 | (with_reducible apply thenK_r)
 | ((with_reducible apply EvK.cond_t); (case hc => exact rfl))
 | (with_reducible apply EvO.nilT)
 | ((with_reducible apply EvO.u0); (case hx => first
 | ((with_reducible apply OpR.lk); (case hm => exact rfl); (case hk => exact rfl); (case ho => exact rfl); (case hf => exact findK_n k0 k1 k2); (case hz => exact rfl))
 | exact opq))
 | fail)
      all_goals (refine fin_b (.inr rfl) rfl ?_; clear hvc hbc; simp_all [formB])
end Go.Proofs.YtgbfedgghjcdcaaGreatDoor

namespace Go.Proofs.YtgbfedgghjcdcaaGreatDoor
set_option linter.unusedSimpArgs false
set_option linter.unusedVariables false
set_option linter.unusedSectionVars false
open Go.RowKit
set_option maxRecDepth 100000
set_option maxHeartbeats 4000000

theorem rvalid_c {xs : List Int} (hl : xs.length ≤ 140737488351232) : Cl cfg 55 [.t (intsA xs)] [] (.t (.bool (validB xs))) [] := by
  refine Cl.of_body rfl Tryz.func55 rfl rfl rfl ?_
  repeat' (first
 | (with_reducible apply EvK.seq)
 | (with_reducible apply EvK.block)
 | ((with_reducible apply EvK.text); (try case hm => exact rfl))
 | (with_reducible apply EvO.nilT)
 | ((with_reducible apply EvO.u0); (case hx => exact opq))
 | fail)
  apply EvK.loopV
  case ho => exact rfl
  case hp => exact rfl
  case hl => exact rfl
  case hs => repeat' (first | exact Slots.nil | (apply Slots.cons; (case hv => (conv => lhs; whnf); try exact rfl)))
  refine EvL.ind (fun q : Nat => [(3, .t (.int .i64 (q : Int)))]) (fun q => q ≤ xs.length ∧ (xs.take q).all ok1 = true) (fun q => xs.length - q) 0 rfl (by simp) (fun q hq => ?_)
  obtain ⟨h1, h2⟩ := hq
  rcases Nat.lt_or_ge q xs.length with h3 | h3
  ·
    obtain ⟨n, hn⟩ := get_of_lt h3
    have hc := intsE_get hn
    repeat' (first
 | (with_reducible apply EvK.seq)
 | (with_reducible apply EvK.block)
 | ((with_reducible apply EvK.text); (try case hm => exact rfl))
 | (with_reducible apply EvK.skip)
 | (with_reducible apply EvK.ret)
 | (with_reducible apply thenK_n)
 | (with_reducible apply thenK_r)
 | (with_reducible apply blockK_n)
 | (with_reducible apply blockK_r)
 | ((with_reducible apply EvK.cond_t); (case hc => exact rfl))
 | ((with_reducible apply EvK.cond_f); (case hc => exact rfl))
 | ((with_reducible apply EvO.spd_t); (case hp => first | assumption | omega))
 | ((with_reducible apply EvO.spd) <;> intro hq)
 | ((with_reducible apply EvO.spd_y) <;> intro hq)
 | (with_reducible apply EvO.nilT)
 | ((with_reducible apply EvO.gf); (case hW => exact rfl))
 | ((with_reducible apply EvO.gt0); (case hW => exact rfl); (case hx => exact opq))
 | ((with_reducible apply EvO.u0); (case hx => exact opq))
 | fail)
    all_goals first
      | (refine fin_b (.inr rfl) rfl ?_)
      | (refine ⟨q + 1, rfl, rfl, ⟨by omega, all_more h2 hn ?_⟩, by omega⟩)
    all_goals first
      | (rw [validB, all_bad hn (by simp [ok1]; omega)]; rfl)
      | (simp [ok1]; omega)
  ·
    have h4 := all_end h2 h3
    repeat' (first
 | (with_reducible apply EvK.seq)
 | ((with_reducible apply EvK.text); (try case hm => exact rfl))
 | (with_reducible apply EvK.exit)
 | (with_reducible apply EvK.ret)
 | (with_reducible apply thenK_n)
 | (with_reducible apply thenK_e)
 | (with_reducible apply blockK_h)
 | ((with_reducible apply EvK.cond_f); (case hc => exact rfl))
 | ((with_reducible apply EvO.spd_f); (case hp => first | assumption | omega))
 | ((with_reducible apply EvO.spd) <;> intro hq)
 | ((with_reducible apply EvO.spd_y) <;> intro hq)
 | (with_reducible apply EvO.nilT)
 | ((with_reducible apply EvO.gf); (case hW => exact rfl))
 | ((with_reducible apply EvO.gt0); (case hW => exact rfl); (case hx => exact opq))
 | ((with_reducible apply EvO.u0); (case hx => exact opq))
 | fail)
    all_goals (refine fin_b (.inr rfl) rfl ?_; rw [validB, h4]; simp; omega)
end Go.Proofs.YtgbfedgghjcdcaaGreatDoor

namespace Go.Proofs.YtgbfedgghjcdcaaGreatDoor
set_option linter.unusedSimpArgs false
set_option linter.unusedVariables false
set_option linter.unusedSectionVars false
open Go.RowKit
set_option maxRecDepth 100000
set_option maxHeartbeats 4000000

theorem rformed_c (e : Ev) (hl : e.past.length ≤ 140737488351232) : Cl cfg 13 [.t (evA e)] [] (.t (.bool (formB e))) [] := by
  refine Cl.of_body rfl Tryz.func13 rfl rfl rfl ?_
  have hvc := rvalid_c hl
  cases hv : validB e.past with
  | false =>
    rw [hv] at hvc
    repeat' (first
 | (with_reducible apply EvK.seq)
 | ((with_reducible apply EvK.text); (try case hm => exact rfl))
 | ((with_reducible apply EvK.drawn); (case hm => exact rfl))
 | (with_reducible apply EvK.ret)
 | (with_reducible apply thenK_r)
 | ((with_reducible apply EvK.cond_t); (case hc => exact rfl))
 | (with_reducible apply EvO.nilT)
 | ((with_reducible apply EvO.gf); (case hW => exact rfl))
 | ((with_reducible apply EvO.u0); (case hx => first
 | ((with_reducible apply OpR.callF); (case hcal => exact rfl); (case hav => exact rfl); (case hx => exact rfl); (case hh => exact rfl); (case hm => exact rfl); (case hcl => exact hvc); (case hr => exact rfl))
 | exact opq))
 | fail)
    all_goals (refine fin_b (.inr rfl) rfl ?_; simp [formB, headOk, hv])
  | true =>
    rw [hv] at hvc
    by_cases hr : 0 ≤ e.r ∧ e.r < e.past.length
    ·
      obtain ⟨h0, h1⟩ := hr
      obtain ⟨x, hx⟩ := get_of_lt (xs := e.past) (k := e.r.toNat) (by omega)
      have hc := intsE_get hx
      have hd := getD_get hx
      have hx2 := ok1_at hv hx
      repeat' (first
 | (with_reducible apply EvK.stop (id := 3))
 | (with_reducible apply EvK.seq)
 | ((with_reducible apply EvK.text); (try case hm => exact rfl))
 | ((with_reducible apply EvK.drawn); (case hm => exact rfl))
 | (with_reducible apply EvK.skip)
 | (with_reducible apply EvK.ret)
 | (with_reducible apply thenK_n)
 | (with_reducible apply thenK_r)
 | ((with_reducible apply EvK.cond_t); (case hc => exact rfl))
 | ((with_reducible apply EvK.cond_f); (case hc => exact rfl))
 | ((with_reducible apply EvO.spd_yf); (case hp => first | assumption | omega))
 | ((with_reducible apply EvO.spd_y) <;> intro hq)
 | ((with_reducible apply EvO.spn_y) <;> intro hq)
 | (with_reducible apply EvO.nilT)
 | ((with_reducible apply EvO.gf); (case hW => exact rfl))
 | ((with_reducible apply EvO.gt0); (case hW => exact rfl); (case hx => exact opq))
 | ((with_reducible apply EvO.u0); (case hx => first
 | ((with_reducible apply OpR.callF); (case hcal => exact rfl); (case hav => exact rfl); (case hx => exact rfl); (case hh => exact rfl); (case hm => exact rfl); (case hcl => exact hvc); (case hr => exact rfl))
 | exact opq))
 | fail)
      all_goals first
        | (refine fin_b (.inr rfl) rfl ?_; rw [formB, headOk, hd]; simp [*, betB]; first | done | omega)
        | skip
      refine StopAt.go ?_
      have hH : headOk e = true := by rw [headOk, hd]; simp [*, betB]; omega
      repeat' (first
 | (with_reducible apply EvK.seq)
 | (with_reducible apply EvK.block)
 | ((with_reducible apply EvK.text); (try case hm => exact rfl))
 | (with_reducible apply EvK.skip)
 | (with_reducible apply EvK.ret)
 | (with_reducible apply thenK_n)
 | (with_reducible apply thenK_r)
 | (with_reducible apply blockK_n)
 | (with_reducible apply blockK_r)
 | (with_reducible apply EvO.nilT)
 | ((with_reducible apply EvO.gd); (case hW => first | exact gOf_tt rfl rfl | exact gOf_tf rfl rfl | ((with_reducible apply gOf_ct); (case h => exact rfl); (case he => repeat (first | with_reducible exact env_hit _ _ _ | (with_reducible refine env_skip rfl ?_) | with_reducible refine env_none ?_))) | ((with_reducible apply gOf_cf); (case h => exact rfl); (case he => repeat (first | with_reducible exact env_hit _ _ _ | (with_reducible refine env_skip rfl ?_) | with_reducible refine env_none ?_)))); (case hx => (intro hw; first
 | (
 rw [hw]
 first
 | ((with_reducible apply OpR.mv); (conv => lhs; whnf); try exact rfl)
 | ((with_reducible apply OpR.len); (case ha => exact rfl); (case hy => exact rfl); (case ht => exact rfl); (case hs => exact rfl); (case hn => first | exact List.length_map _ | exact rfl))
 | ((with_reducible apply OpR.fal); (case hy => exact rfl); (case ho => exact rfl); (case hn => (conv => lhs; whnf); try exact rfl))
 | ((with_reducible apply OpR.and); (case hc => exact rfl); (case hx => exact rfl); (case hy => exact rfl))
 | exact OpR.r fun _ => rfl)
 | (((with_reducible apply OpR.fal); (case hy => exact rfl); (case ho => exact rfl); (case hn => (conv => lhs; whnf); try exact rfl))))))
 | ((with_reducible apply EvO.u0); (case hx => first
 | ((with_reducible apply OpR.mv); (conv => lhs; whnf); try exact rfl)
 | ((with_reducible apply OpR.asg); (conv => lhs; whnf); try exact rfl)
 | ((with_reducible apply OpR.nes); (case hx => exact rfl); (case hy => exact rfl); (case hg => exact need_g); (case ht => exact rfl); (case hr => exact need_eq _ _ _ _))
 | ((with_reducible apply OpR.fal); (case hy => exact rfl); (case ho => exact rfl); (case hn => (conv => lhs; whnf); try exact rfl))
 | ((with_reducible apply OpR.al); (case hs => exact fun _ => rfl); (case hz => exact rfl); (case hc => (repeat' (first | exact LEq.nil | ((first | with_reducible apply LEq.cons | apply LEq.cons); (case h => (conv => lhs; whnf); try exact rfl))))); (case hn => (first | exact ln0 | exact ln1 | exact ln2 | exact ln3 | exact ln4 | exact ln5 | exact ln6 | exact ln7 | exact ln8 | exact ln9 | exact ln10 | exact ln11 | exact ln12 | exact ln13 | exact ln14)); (case hf => (repeat' (first | exact LEq.nil | ((first | with_reducible apply LEq.cons | apply LEq.cons); (case h => (conv => lhs; whnf); try exact rfl))))))
 | ((with_reducible apply OpR.stw); (case hs => exact fun _ => rfl); (case ha => exact rfl); (case hy => exact rfl); (case ht => first | (with_reducible exact sz0) | (with_reducible exact sz1) | (with_reducible exact sz2) | (with_reducible exact sz3) | (with_reducible exact sz4) | (with_reducible exact sz5) | (with_reducible exact sz6) | (with_reducible exact sz7) | (with_reducible exact sz8) | (with_reducible exact sz9) | exact rfl); (case ho => kernel_rfl); (case hl => kernel_rfl); (case hb => exact rfl); (case hc => kernel_rfl); (case hf => (repeat' (first | exact LEq.nil | ((first | with_reducible apply LEq.cons | apply LEq.cons); (case h => (conv => lhs; whnf); try exact rfl))))))
 | ((with_reducible apply OpR.ldt); (case hy => exact rfl); (case ht => first | (with_reducible exact sz0) | (with_reducible exact sz1) | (with_reducible exact sz2) | (with_reducible exact sz3) | (with_reducible exact sz4) | (with_reducible exact sz5) | (with_reducible exact sz6) | (with_reducible exact sz7) | (with_reducible exact sz8) | (with_reducible exact sz9)); (case hb => exact rfl); (case hl => kernel_rfl); (case hv => exact rfl); (case hx => (repeat' (first | exact Prs.nil | (apply Prs.cons)))))
 | ((with_reducible apply OpR.or); (case hc => exact rfl); (case hx => exact rfl); (case hy => exact rfl))
 | ((with_reducible apply OpR.and); (case hc => exact rfl); (case hx => exact rfl); (case hy => exact rfl))
 | exact OpR.r fun _ => rfl))
 | (((with_reducible apply EvK.cond_s); (case hc => exact rfl)) <;> intro hq)
 | fail)
      all_goals (refine fin_b (.inr rfl) rfl ?_; clear hvc hc; rw [formB, hH, Bool.eq_iff_iff]; clear hH hv hx hd)
      all_goals (simp only [Bool.or_eq_true, Bool.and_eq_true, Bool.not_eq_true', Bool.or_eq_false_iff, Bool.and_eq_false_iff, decide_eq_true_eq, decide_eq_false_iff_not, Bool.not_eq_false'] at *)
      all_goals first
        | (simp [*, actF, noteF, giveZ, betB]; done)
        | (simp [*, actF, noteF, giveZ, betB]; omega)
        | (simp [*, giveF, betB]; by_cases hg : e.gk = 1 <;> simp [hg] <;> omega)
        | skip
    ·
      repeat' (first
 | (with_reducible apply EvK.seq)
 | ((with_reducible apply EvK.text); (try case hm => exact rfl))
 | ((with_reducible apply EvK.drawn); (case hm => exact rfl))
 | (with_reducible apply EvK.ret)
 | (with_reducible apply thenK_r)
 | ((with_reducible apply EvK.cond_t); (case hc => exact rfl))
 | ((with_reducible apply EvO.spd_yt); (case hp => first | assumption | omega))
 | ((with_reducible apply EvO.spd_y) <;> intro hq)
 | (with_reducible apply EvO.nilT)
 | ((with_reducible apply EvO.gf); (case hW => exact rfl))
 | ((with_reducible apply EvO.gt0); (case hW => exact rfl); (case hx => exact opq))
 | ((with_reducible apply EvO.u0); (case hx => first
 | ((with_reducible apply OpR.callF); (case hcal => exact rfl); (case hav => exact rfl); (case hx => exact rfl); (case hh => exact rfl); (case hm => exact rfl); (case hcl => exact hvc); (case hr => exact rfl))
 | exact opq))
 | fail)
      all_goals first
        | (refine fin_b (.inr rfl) rfl ?_; rw [formB, headOk]; simp [*, betB]; first | done | omega)
        | skip
end Go.Proofs.YtgbfedgghjcdcaaGreatDoor

namespace Go.Proofs.YtgbfedgghjcdcaaGreatDoor
set_option linter.unusedSimpArgs false
set_option linter.unusedVariables false
set_option linter.unusedSectionVars false
open Go.RowKit
set_option maxRecDepth 100000
set_option maxHeartbeats 4000000

end Go.Proofs.YtgbfedgghjcdcaaGreatDoor

namespace Go.Proofs.YtgbfedgghjcdcaaGreatDoor
set_option linter.unusedSimpArgs false
set_option linter.unusedVariables false
set_option linter.unusedSectionVars false
open Go.RowKit
set_option maxRecDepth 100000
set_option maxHeartbeats 4000000

end Go.Proofs.YtgbfedgghjcdcaaGreatDoor

namespace Go.Proofs.YtgbfedgghjcdcaaGreatDoor
set_option linter.unusedSimpArgs false
set_option linter.unusedVariables false
set_option linter.unusedSectionVars false
open Go.RowKit
set_option maxRecDepth 100000
set_option maxHeartbeats 4000000

end Go.Proofs.YtgbfedgghjcdcaaGreatDoor
