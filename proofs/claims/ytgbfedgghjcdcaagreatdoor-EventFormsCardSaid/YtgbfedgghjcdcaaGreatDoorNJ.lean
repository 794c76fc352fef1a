/- Law 32: EventForms. No condition. -/
import Derived.Test.YtgbfedgghjcdcaaGreatDoorNI
import Derived.Test.YtgbfedgghjcdcaaGreatDoorTKC
import Derived.Test.YtgbfedgghjcdcaaGreatDoorTE
import Derived.Test.YtgbfedgghjcdcaaGreatDoorKTA
import Derived.Test.YtgbfedgghjcdcaaGreatDoorMD
namespace Go.Proofs.YtgbfedgghjcdcaaGreatDoor
set_option linter.unusedSimpArgs false
set_option linter.unusedVariables false
set_option linter.unusedSectionVars false
open Go.RowKit
set_option maxRecDepth 100000
set_option maxHeartbeats 32000000

theorem rcon_c (a b : Ev) (ha : a.past.length ≤ 140737488351232) (hb : b.past.length ≤ 140737488351232) : Cl cfg 19 [.t (evA a), .t (evA b)] [] (.t (.bool (conB a b))) [] := by
  have h1 := rformed_c a ha
  have h2 := rformed_c b hb
  have h3 := rbefore_c a b ha hb
  have h4 := rbefore_c b a hb ha
  have n1 := rname32_c a
  have n2 := rname32_c b
  refine Cl.of_body rfl Tryz.func19 rfl rfl rfl ?_
  cases hfa : formB a with
  | false =>
    rw [hfa] at h1
    have e : conB a b = false := by simp [conB, hfa]
    rw [e]
    repeat' (first
 | (with_reducible apply EvK.seq)
 | ((with_reducible apply EvK.text); (try case hm => exact rfl))
 | ((with_reducible apply EvK.drawn); (case hm => exact rfl))
 | (with_reducible apply EvK.ret)
 | (with_reducible apply EvO.nilT)
 | ((with_reducible apply EvO.gf); (case hW => exact rfl))
 | ((with_reducible apply EvO.u0); (case hx => first
 | ((with_reducible apply OpR.callF); (case hcal => exact rfl); (case hav => exact rfl); (case hx => exact rfl); (case hh => exact rfl); (case hm => exact rfl); (case hcl => exact h1); (case hr => exact rfl))
 | exact opq))
 | fail)
    exact ⟨.inr rfl, rfl⟩
  | true =>
    rw [hfa] at h1
    cases hfb : formB b with
    | false =>
      rw [hfb] at h2
      have e : conB a b = false := by simp [conB, hfb]
      rw [e]
      repeat' (first
 | (with_reducible apply EvK.seq)
 | ((with_reducible apply EvK.text); (try case hm => exact rfl))
 | ((with_reducible apply EvK.drawn); (case hm => exact rfl))
 | (with_reducible apply EvK.ret)
 | (with_reducible apply EvO.nilT)
 | ((with_reducible apply EvO.gf); (case hW => exact rfl))
 | ((with_reducible apply EvO.gt0); (case hW => exact rfl); (case hx => first
 | ((with_reducible apply OpR.callF); (case hcal => exact rfl); (case hav => exact rfl); (case hx => exact rfl); (case hh => exact rfl); (case hm => exact rfl); (case hcl => exact h2); (case hr => exact rfl))
 | exact opq))
 | ((with_reducible apply EvO.u0); (case hx => first
 | ((with_reducible apply OpR.callF); (case hcal => exact rfl); (case hav => exact rfl); (case hx => exact rfl); (case hh => exact rfl); (case hm => exact rfl); (case hcl => exact h1); (case hr => exact rfl))
 | exact opq))
 | fail)
      exact ⟨.inr rfl, rfl⟩
    | true =>
      rw [hfb] at h2
      by_cases hn : nm a = nm b
      ·
        have hte := dot_t hn
        have e : conB a b = false := by simp [conB, hn]
        rw [e]
        repeat' (first
 | (with_reducible apply EvK.seq)
 | ((with_reducible apply EvK.text); (try case hm => exact rfl))
 | ((with_reducible apply EvK.drawn); (case hm => exact rfl))
 | (with_reducible apply EvK.ret)
 | (with_reducible apply EvO.nilT)
 | ((with_reducible apply EvO.gf); (case hW => exact rfl))
 | ((with_reducible apply EvO.gt0); (case hW => exact rfl); (case hx => first
 | ((with_reducible apply OpR.nes); (case hx => exact rfl); (case hy => exact rfl); (case hg => exact dot_g); (case ht => exact rfl); (case hr => exact hte))
 | ((with_reducible apply OpR.callF); (case hcal => exact rfl); (case hav => exact rfl); (case hx => exact rfl); (case hh => exact rfl); (case hm => exact rfl); (case hcl => exact h2); (case hr => exact rfl))
 | ((with_reducible apply OpR.callF); (case hcal => exact rfl); (case hav => exact rfl); (case hx => exact rfl); (case hh => exact rfl); (case hm => exact rfl); (case hcl => exact n1); (case hr => exact rfl))
 | ((with_reducible apply OpR.callF); (case hcal => exact rfl); (case hav => exact rfl); (case hx => exact rfl); (case hh => exact rfl); (case hm => exact rfl); (case hcl => exact n2); (case hr => exact rfl))
 | exact opq))
 | ((with_reducible apply EvO.u0); (case hx => first
 | ((with_reducible apply OpR.callF); (case hcal => exact rfl); (case hav => exact rfl); (case hx => exact rfl); (case hh => exact rfl); (case hm => exact rfl); (case hcl => exact h1); (case hr => exact rfl))
 | exact opq))
 | fail)
        exact ⟨.inr rfl, rfl⟩
      ·
        have hte := dot_f hn
        obtain ⟨x, hx⟩ : ∃ x, befB a b = x := ⟨_, rfl⟩
        obtain ⟨y, hy⟩ : ∃ y, befB b a = y := ⟨_, rfl⟩
        have e : conB a b = (!x && !y) := by rw [← hx, ← hy]; simp [conB, befB, hfa, hfb, hn]
        rw [hx] at h3
        rw [hy] at h4
        rw [e]
        cases x with
        | true =>
          repeat' (first
 | (with_reducible apply EvK.seq)
 | ((with_reducible apply EvK.text); (try case hm => exact rfl))
 | ((with_reducible apply EvK.drawn); (case hm => exact rfl))
 | (with_reducible apply EvK.ret)
 | (with_reducible apply EvO.nilT)
 | ((with_reducible apply EvO.gf); (case hW => exact rfl))
 | ((with_reducible apply EvO.gt0); (case hW => exact rfl); (case hx => first
 | ((with_reducible apply OpR.nes); (case hx => exact rfl); (case hy => exact rfl); (case hg => exact dot_g); (case ht => exact rfl); (case hr => exact hte))
 | ((with_reducible apply OpR.callF); (case hcal => exact rfl); (case hav => exact rfl); (case hx => exact rfl); (case hh => exact rfl); (case hm => exact rfl); (case hcl => exact h2); (case hr => exact rfl))
 | ((with_reducible apply OpR.callF); (case hcal => exact rfl); (case hav => exact rfl); (case hx => exact rfl); (case hh => exact rfl); (case hm => exact rfl); (case hcl => exact n1); (case hr => exact rfl))
 | ((with_reducible apply OpR.callF); (case hcal => exact rfl); (case hav => exact rfl); (case hx => exact rfl); (case hh => exact rfl); (case hm => exact rfl); (case hcl => exact n2); (case hr => exact rfl))
 | ((with_reducible apply OpR.callF); (case hcal => exact rfl); (case hav => exact rfl); (case hx => exact rfl); (case hh => exact rfl); (case hm => exact rfl); (case hcl => exact h3); (case hr => exact rfl))
 | exact opq))
 | ((with_reducible apply EvO.u0); (case hx => first
 | ((with_reducible apply OpR.callF); (case hcal => exact rfl); (case hav => exact rfl); (case hx => exact rfl); (case hh => exact rfl); (case hm => exact rfl); (case hcl => exact h1); (case hr => exact rfl))
 | exact opq))
 | fail)
          exact ⟨.inr rfl, rfl⟩
        | false =>
          cases y <;>
          repeat' (first
 | (with_reducible apply EvK.seq)
 | ((with_reducible apply EvK.text); (try case hm => exact rfl))
 | ((with_reducible apply EvK.drawn); (case hm => exact rfl))
 | (with_reducible apply EvK.ret)
 | (with_reducible apply EvO.nilT)
 | ((with_reducible apply EvO.gt0); (case hW => exact rfl); (case hx => first
 | ((with_reducible apply OpR.nes); (case hx => exact rfl); (case hy => exact rfl); (case hg => exact dot_g); (case ht => exact rfl); (case hr => exact hte))
 | ((with_reducible apply OpR.callF); (case hcal => exact rfl); (case hav => exact rfl); (case hx => exact rfl); (case hh => exact rfl); (case hm => exact rfl); (case hcl => exact h2); (case hr => exact rfl))
 | ((with_reducible apply OpR.callF); (case hcal => exact rfl); (case hav => exact rfl); (case hx => exact rfl); (case hh => exact rfl); (case hm => exact rfl); (case hcl => exact n1); (case hr => exact rfl))
 | ((with_reducible apply OpR.callF); (case hcal => exact rfl); (case hav => exact rfl); (case hx => exact rfl); (case hh => exact rfl); (case hm => exact rfl); (case hcl => exact n2); (case hr => exact rfl))
 | ((with_reducible apply OpR.callF); (case hcal => exact rfl); (case hav => exact rfl); (case hx => exact rfl); (case hh => exact rfl); (case hm => exact rfl); (case hcl => exact h3); (case hr => exact rfl))
 | ((with_reducible apply OpR.callF); (case hcal => exact rfl); (case hav => exact rfl); (case hx => exact rfl); (case hh => exact rfl); (case hm => exact rfl); (case hcl => exact h4); (case hr => exact rfl))
 | exact opq))
 | ((with_reducible apply EvO.u0); (case hx => first
 | ((with_reducible apply OpR.callF); (case hcal => exact rfl); (case hav => exact rfl); (case hx => exact rfl); (case hh => exact rfl); (case hm => exact rfl); (case hcl => exact h1); (case hr => exact rfl))
 | exact opq))
 | fail)
          all_goals exact ⟨.inr rfl, rfl⟩
def validE (m : Md) (n : Int) (e : Ev) : Bool := formB e && (decide ((e.past.length : Int) = n) && (!decide (e.k = 0) || decide (e.a < m.acts.length)))
theorem evalid_c {m : Md} (hm : MdL m) (n : Int) (e : Ev) (he : e.past.length ≤ 140737488351232) : Cl cfg 14 [.t (mdA m), .t (.int .i64 n), .t (evA e)] [] (.t (.bool (validE m n e))) [] := by
  have kf := formed_c e he
  have hlA := acE_len m.acts
  have hle := intsE_len e.past
  rw [mdA_eq]
  refine Cl.of_body rfl Tryz.func14 rfl rfl rfl ?_
  obtain ⟨b, hb⟩ : ∃ b, formB e = b := ⟨_, rfl⟩
  have e0 : validE m n e = (b && (decide ((e.past.length : Int) = n) && (!decide (e.k = 0) || decide (e.a < m.acts.length)))) := by unfold validE; rw [hb]
  rw [hb] at kf
  rw [e0]
  cases b with
  | false =>
    repeat' (first
 | (with_reducible apply EvK.seq)
 | ((with_reducible apply EvK.text); (try case hm => exact rfl))
 | (with_reducible apply EvK.ret)
 | (with_reducible apply EvO.nilT)
 | ((with_reducible apply EvO.gf); (case hW => exact rfl))
 | ((with_reducible apply EvO.u0); (case hx => first
 | ((with_reducible apply OpR.callF); (case hcal => exact rfl); (case hav => exact rfl); (case hx => exact rfl); (case hh => exact rfl); (case hm => exact rfl); (case hcl => exact kf); (case hr => exact rfl))
 | exact opq))
 | fail)
    exact ⟨.inr rfl, rfl⟩
  | true =>
    repeat' (first
 | (with_reducible apply EvK.seq)
 | ((with_reducible apply EvK.text); (try case hm => exact rfl))
 | (with_reducible apply EvK.ret)
 | ((with_reducible apply EvO.spd_y) <;> intro hq)
 | ((with_reducible apply EvO.spn_y) <;> intro hq)
 | (with_reducible apply EvO.nilT)
 | ((with_reducible apply EvO.gf); (case hW => exact rfl))
 | ((with_reducible apply EvO.gt0); (case hW => exact rfl); (case hx => exact opq))
 | ((with_reducible apply EvO.u0); (case hx => first
 | ((with_reducible apply OpR.callF); (case hcal => exact rfl); (case hav => exact rfl); (case hx => exact rfl); (case hh => exact rfl); (case hm => exact rfl); (case hcl => exact kf); (case hr => exact rfl))
 | exact opq))
 | fail)
    all_goals (refine fin_b (.inr rfl) rfl ?_; first | (simp_all; done) | (simp_all; omega))
theorem rvalidE_c {m : Md} (hm : MdL m) (n : Int) (e : Ev) (he : e.past.length ≤ 140737488351232) : Cl cfg 15 [.t (mdA m), .t (.int .i64 n), .t (evA e)] [] (.t (.bool (validE m n e))) [] := by
  have kf := rformed_c e he
  have hlA := acE_len m.acts
  have hle := intsE_len e.past
  rw [mdA_eq]
  refine Cl.of_body rfl Tryz.func15 rfl rfl rfl ?_
  obtain ⟨b, hb⟩ : ∃ b, formB e = b := ⟨_, rfl⟩
  have e0 : validE m n e = (b && (decide ((e.past.length : Int) = n) && (!decide (e.k = 0) || decide (e.a < m.acts.length)))) := by unfold validE; rw [hb]
  rw [hb] at kf
  rw [e0]
  cases b with
  | false =>
    repeat' (first
 | (with_reducible apply EvK.seq)
 | ((with_reducible apply EvK.text); (try case hm => exact rfl))
 | (with_reducible apply EvK.ret)
 | (with_reducible apply EvO.nilT)
 | ((with_reducible apply EvO.gf); (case hW => exact rfl))
 | ((with_reducible apply EvO.u0); (case hx => first
 | ((with_reducible apply OpR.callF); (case hcal => exact rfl); (case hav => exact rfl); (case hx => exact rfl); (case hh => exact rfl); (case hm => exact rfl); (case hcl => exact kf); (case hr => exact rfl))
 | exact opq))
 | fail)
    exact ⟨.inr rfl, rfl⟩
  | true =>
    repeat' (first
 | (with_reducible apply EvK.seq)
 | ((with_reducible apply EvK.text); (try case hm => exact rfl))
 | (with_reducible apply EvK.ret)
 | ((with_reducible apply EvO.spd_y) <;> intro hq)
 | ((with_reducible apply EvO.spn_y) <;> intro hq)
 | (with_reducible apply EvO.nilT)
 | ((with_reducible apply EvO.gf); (case hW => exact rfl))
 | ((with_reducible apply EvO.gt0); (case hW => exact rfl); (case hx => exact opq))
 | ((with_reducible apply EvO.u0); (case hx => first
 | ((with_reducible apply OpR.callF); (case hcal => exact rfl); (case hav => exact rfl); (case hx => exact rfl); (case hh => exact rfl); (case hm => exact rfl); (case hcl => exact kf); (case hr => exact rfl))
 | exact opq))
 | fail)
    all_goals (refine fin_b (.inr rfl) rfl ?_; first | (simp_all; done) | (simp_all; omega))
section
variable {g : Cfg} {d : Option (List Nat)} {env : Env} {fr : Fr} {i : Nat}
theorem OpR.eqb {xt yt : TypeId} {x y : Operand} {b : Bool} (hx : rd env x = .t (.bool b)) (hy : rd env y = .t (.bool b)) (ht : isBoolT g.P xt = true) : OpR g d i env fr (.binOp .eql xt x y yt) (.t (.bool true)) fr [] :=
  .bin hx hy (by unfold binS; simp only [ht]; cases b <;> rfl)
end
theorem law_forms {m : Md} (hm : MdL m) (hef : ∀ a ∈ m.acts, EfB a.eff) (n : Int) (a b : Ev) (ha : a.past.length ≤ 140737488351232) (hb : b.past.length ≤ 140737488351232) : Cl cfg 3 [.t (mdA m), .t (.int .i64 n), .t (evA a), .t (evA b)] [] (.t (.bool true)) [] := by
  have kf := few_c (l := [a, b]) hm hef (by simp) (fun e he => by
    rcases List.mem_cons.1 he with rfl | he
    · exact ha
    · rcases List.mem_cons.1 he with rfl | he
      · exact hb
      · cases he)
  have e2 : evsE [a, b] = [evCs a, evCs b] := rfl
  rw [e2] at kf
  have f1 := formed_c a ha
  have f2 := rformed_c a ha
  have v1 := evalid_c hm n a ha
  have v2 := rvalidE_c hm n a ha
  have b1 := before_c a b ha hb
  have b2 := rbefore_c a b ha hb
  have c1 := con_c a b ha hb
  have c2 := rcon_c a b ha hb
  obtain ⟨x1, hx1⟩ : ∃ x, fewMB m [a, b] = x := ⟨_, rfl⟩
  obtain ⟨x2, hx2⟩ : ∃ x, formB a = x := ⟨_, rfl⟩
  obtain ⟨x3, hx3⟩ : ∃ x, validE m n a = x := ⟨_, rfl⟩
  obtain ⟨x4, hx4⟩ : ∃ x, befB a b = x := ⟨_, rfl⟩
  obtain ⟨x5, hx5⟩ : ∃ x, conB a b = x := ⟨_, rfl⟩
  rw [hx1] at kf
  rw [hx2] at f1 f2
  rw [hx3] at v1 v2
  rw [hx4] at b1 b2
  rw [hx5] at c1 c2
  rw [mdA_eq] at kf v1 v2 ⊢
  refine Cl.of_body rfl Tryz.func3 rfl rfl rfl ?_
  cases x1 with
  | false =>
    repeat' (first
 | (with_reducible apply EvK.seq)
 | ((with_reducible apply EvK.text); (try case hm => exact rfl))
 | (with_reducible apply EvK.skip)
 | (with_reducible apply EvK.ret)
 | (with_reducible apply thenK_n)
 | (with_reducible apply thenK_r)
 | ((with_reducible apply EvK.cond_t); (case hc => exact rfl))
 | ((with_reducible apply EvK.cond_f); (case hc => exact rfl))
 | (with_reducible apply EvO.nilT)
 | ((with_reducible apply EvO.u0); (case hx => first
 | ((with_reducible apply OpR.bsl (es := [evCs a, evCs b])); (case hw => exact rfl); (case ho => kernel_rfl); (case h => kernel_rfl))
 | ((with_reducible apply OpR.callF); (case hcal => exact rfl); (case hav => exact rfl); (case hx => exact rfl); (case hh => exact rfl); (case hm => exact rfl); (case hcl => exact awake_c); (case hr => exact rfl))
 | ((with_reducible apply OpR.callF); (case hcal => exact rfl); (case hav => exact rfl); (case hx => exact rfl); (case hh => exact rfl); (case hm => exact rfl); (case hcl => exact kf); (case hr => exact rfl))
 | exact opq))
 | fail)
    exact ⟨.inr rfl, rfl⟩
  | true =>
    repeat' (first
 | (with_reducible apply EvK.seq)
 | ((with_reducible apply EvK.text); (try case hm => exact rfl))
 | ((with_reducible apply EvK.drawn); (case hm => exact rfl))
 | (with_reducible apply EvK.skip)
 | (with_reducible apply EvK.ret)
 | (with_reducible apply thenK_n)
 | ((with_reducible apply EvK.cond_f); (case hc => exact rfl))
 | (with_reducible apply EvO.nilT)
 | ((with_reducible apply EvO.gt0); (case hW => exact rfl); (case hx => first
 | ((with_reducible apply OpR.eqb); (case hx => exact rfl); (case hy => exact rfl); (case ht => kernel_rfl))
 | ((with_reducible apply OpR.callF); (case hcal => exact rfl); (case hav => exact rfl); (case hx => exact rfl); (case hh => exact rfl); (case hm => exact rfl); (case hcl => exact v1); (case hr => exact rfl))
 | ((with_reducible apply OpR.callF); (case hcal => exact rfl); (case hav => exact rfl); (case hx => exact rfl); (case hh => exact rfl); (case hm => exact rfl); (case hcl => exact v2); (case hr => exact rfl))
 | ((with_reducible apply OpR.callF); (case hcal => exact rfl); (case hav => exact rfl); (case hx => exact rfl); (case hh => exact rfl); (case hm => exact rfl); (case hcl => exact b1); (case hr => exact rfl))
 | ((with_reducible apply OpR.callF); (case hcal => exact rfl); (case hav => exact rfl); (case hx => exact rfl); (case hh => exact rfl); (case hm => exact rfl); (case hcl => exact b2); (case hr => exact rfl))
 | ((with_reducible apply OpR.callF); (case hcal => exact rfl); (case hav => exact rfl); (case hx => exact rfl); (case hh => exact rfl); (case hm => exact rfl); (case hcl => exact c1); (case hr => exact rfl))
 | ((with_reducible apply OpR.callF); (case hcal => exact rfl); (case hav => exact rfl); (case hx => exact rfl); (case hh => exact rfl); (case hm => exact rfl); (case hcl => exact c2); (case hr => exact rfl))
 | exact opq))
 | ((with_reducible apply EvO.u0); (case hx => first
 | ((with_reducible apply OpR.bsl (es := [evCs a, evCs b])); (case hw => exact rfl); (case ho => kernel_rfl); (case h => kernel_rfl))
 | ((with_reducible apply OpR.eqb); (case hx => exact rfl); (case hy => exact rfl); (case ht => kernel_rfl))
 | ((with_reducible apply OpR.callF); (case hcal => exact rfl); (case hav => exact rfl); (case hx => exact rfl); (case hh => exact rfl); (case hm => exact rfl); (case hcl => exact awake_c); (case hr => exact rfl))
 | ((with_reducible apply OpR.callF); (case hcal => exact rfl); (case hav => exact rfl); (case hx => exact rfl); (case hh => exact rfl); (case hm => exact rfl); (case hcl => exact kf); (case hr => exact rfl))
 | ((with_reducible apply OpR.callF); (case hcal => exact rfl); (case hav => exact rfl); (case hx => exact rfl); (case hh => exact rfl); (case hm => exact rfl); (case hcl => exact f1); (case hr => exact rfl))
 | ((with_reducible apply OpR.callF); (case hcal => exact rfl); (case hav => exact rfl); (case hx => exact rfl); (case hh => exact rfl); (case hm => exact rfl); (case hcl => exact f2); (case hr => exact rfl))
 | exact opq))
 | fail)
    exact ⟨.inr rfl, rfl⟩
end Go.Proofs.YtgbfedgghjcdcaaGreatDoor
