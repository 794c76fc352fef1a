/- Law 32: events before others, clocks that contain others. No condition. -/
import Derived.Test.YtgbfedgghjcdcaaGreatDoorTD
import Derived.Test.YtgbfedgghjcdcaaGreatDoorTW
import Derived.Test.YtgbfedgghjcdcaaGreatDoorTS
namespace Go.Proofs.YtgbfedgghjcdcaaGreatDoor
set_option linter.unusedSimpArgs false
set_option linter.unusedVariables false
set_option linter.unusedSectionVars false
open Go.RowKit
set_option maxRecDepth 100000
set_option maxHeartbeats 8000000

theorem evA_cells (e : Ev) : evA e = .agg [.int .i64 e.r, .int .i64 e.n, .int .i64 e.t, intsA e.past, .int .i64 e.k, .int .i64 e.a, .int .i64 e.gk, .int .i64 e.gi, .int .i64 e.ge, .int .i64 e.ga, .int .i64 e.to, .int .i64 e.pl, .int .i64 e.se] := rfl
theorem name_c (e : Ev) : Cl cfg 59 [.t (evA e)] [] (.t (.agg [.int .i64 e.r, .int .i64 e.n])) [] := by
  rw [evA_cells]
  refine Cl.of_body rfl Tryz.func59 rfl rfl rfl ?_
  repeat' (first
 | (with_reducible apply EvK.seq)
 | ((with_reducible apply EvK.text); (try case hm => exact rfl))
 | (with_reducible apply EvK.ret)
 | (with_reducible apply EvO.nilT)
 | ((with_reducible apply EvO.u0); (case hx => exact opq))
 | fail)
  exact ⟨.inr rfl, rfl⟩
theorem rname32_c (e : Ev) : Cl cfg 58 [.t (evA e)] [] (.t (.agg [.int .i64 e.r, .int .i64 e.n])) [] := by
  rw [evA_cells]
  refine Cl.of_body rfl Tryz.func58 rfl rfl rfl ?_
  repeat' (first
 | (with_reducible apply EvK.seq)
 | ((with_reducible apply EvK.text); (try case hm => exact rfl))
 | (with_reducible apply EvK.ret)
 | (with_reducible apply EvO.nilT)
 | ((with_reducible apply EvO.u0); (case hx => exact opq))
 | fail)
  exact ⟨.inr rfl, rfl⟩
theorem ebefore_c (a b : Ev) (hb : b.past.length ≤ 140737488351232) : Cl cfg 56 [.t (evA a), .t (evA b)] [] (.t (.bool (hasS b.past a.r a.n))) [] := by
  have hn := name_c a
  have hh := has_c (a := b.past) (r := a.r) (n := a.n) hb
  rw [evA_cells b]
  refine Cl.of_body rfl Tryz.func56 rfl rfl rfl ?_
  repeat' (first
 | (with_reducible apply EvK.seq)
 | ((with_reducible apply EvK.text); (try case hm => exact rfl))
 | ((with_reducible apply EvK.drawn); (case hm => exact rfl))
 | (with_reducible apply EvK.ret)
 | (with_reducible apply EvO.nilT)
 | ((with_reducible apply EvO.u0); (case hx => first
 | ((with_reducible apply OpR.callF); (case hcal => exact rfl); (case hav => exact rfl); (case hx => exact rfl); (case hh => exact rfl); (case hm => exact rfl); (case hcl => exact hn); (case hr => exact rfl))
 | ((with_reducible apply OpR.callF); (case hcal => exact rfl); (case hav => exact rfl); (case hx => exact rfl); (case hh => exact rfl); (case hm => exact rfl); (case hcl => exact hh); (case hr => exact rfl))
 | exact opq))
 | fail)
  exact ⟨.inr rfl, rfl⟩
theorem rhasd_c {a : List Int} {r n : Int} (ha : a.length ≤ 140737488351232) : Cl cfg 57 [.t (intsA a), .t (.agg [.int .i64 r, .int .i64 n])] [] (.t (.bool (hasS a r n))) [] := by
  refine Cl.of_body rfl Tryz.func57 rfl rfl rfl ?_
  by_cases hr : 0 ≤ r ∧ r < a.length
  ·
    obtain ⟨x, hx⟩ := get_of_lt (xs := a) (k := r.toNat) (by omega)
    have hc := intsE_get hx
    have hd := getD_get hx
    obtain ⟨h0, h1⟩ := hr
    repeat' (first
 | (with_reducible apply EvK.seq)
 | ((with_reducible apply EvK.text); (try case hm => exact rfl))
 | ((with_reducible apply EvK.drawn); (case hm => exact rfl))
 | (with_reducible apply EvK.ret)
 | ((with_reducible apply EvO.spb (b := validB _)) <;> intro hq)
 | ((with_reducible apply EvO.spd_yt); (case hp => first | assumption | omega))
 | ((with_reducible apply EvO.spd_y) <;> intro hq)
 | (with_reducible apply EvO.nilT)
 | ((with_reducible apply EvO.gf); (case hW => exact rfl))
 | ((with_reducible apply EvO.gt0); (case hW => exact rfl); (case hx => exact opq))
 | ((with_reducible apply EvO.u0); (case hx => first
 | ((with_reducible apply OpR.callF); (case hcal => exact rfl); (case hav => exact rfl); (case hx => exact rfl); (case hh => exact rfl); (case hm => exact rfl); (case hcl => exact rvalid_c ha); (case hr => exact rfl))
 | exact opq))
 | fail)
    all_goals (refine fin_b (.inr rfl) rfl ?_; rw [hasS, hd]; simp [*]; try omega)
  ·
    repeat' (first
 | (with_reducible apply EvK.seq)
 | ((with_reducible apply EvK.text); (try case hm => exact rfl))
 | ((with_reducible apply EvK.drawn); (case hm => exact rfl))
 | (with_reducible apply EvK.ret)
 | ((with_reducible apply EvO.spb (b := validB _)) <;> intro hq)
 | ((with_reducible apply EvO.spd_yf); (case hp => first | assumption | omega))
 | ((with_reducible apply EvO.spd_y) <;> intro hq)
 | (with_reducible apply EvO.nilT)
 | ((with_reducible apply EvO.gf); (case hW => exact rfl))
 | ((with_reducible apply EvO.gt0); (case hW => exact rfl); (case hx => exact opq))
 | ((with_reducible apply EvO.u0); (case hx => first
 | ((with_reducible apply OpR.callF); (case hcal => exact rfl); (case hav => exact rfl); (case hx => exact rfl); (case hh => exact rfl); (case hm => exact rfl); (case hcl => exact rvalid_c ha); (case hr => exact rfl))
 | exact opq))
 | fail)
    all_goals (refine fin_b (.inr rfl) rfl ?_; simp [hasS, *]; try omega)
theorem before_c (a b : Ev) (ha : a.past.length ≤ 140737488351232) (hb : b.past.length ≤ 140737488351232) : Cl cfg 16 [.t (evA a), .t (evA b)] [] (.t (.bool (befB a b))) [] := by
  have h1 := formed_c a ha
  have h2 := formed_c b hb
  have h3 := ebefore_c a b hb
  unfold befB
  refine Cl.of_body rfl Tryz.func16 rfl rfl rfl ?_
  obtain ⟨x, hx⟩ : ∃ x, formB a = x := ⟨_, rfl⟩
  obtain ⟨y, hy⟩ : ∃ x, formB b = x := ⟨_, rfl⟩
  obtain ⟨z, hz⟩ : ∃ x, hasS b.past a.r a.n = x := ⟨_, rfl⟩
  rw [hx] at h1 ⊢
  rw [hy] at h2 ⊢
  rw [hz] at h3 ⊢
  cases x with
  | false =>
    repeat' (first
 | (with_reducible apply EvK.seq)
 | ((with_reducible apply EvK.text); (try case hm => exact rfl))
 | (with_reducible apply EvK.ret)
 | (with_reducible apply EvO.nilT)
 | ((with_reducible apply EvO.gf); (case hW => exact rfl))
 | ((with_reducible apply EvO.u0); (case hx => first
 | ((with_reducible apply OpR.callF); (case hcal => exact rfl); (case hav => exact rfl); (case hx => exact rfl); (case hh => exact rfl); (case hm => exact rfl); (case hcl => exact h1); (case hr => exact rfl))
 | exact opq))
 | fail)
    exact ⟨.inr rfl, rfl⟩
  | true =>
    cases y with
    | false =>
      repeat' (first
 | (with_reducible apply EvK.seq)
 | ((with_reducible apply EvK.text); (try case hm => exact rfl))
 | (with_reducible apply EvK.ret)
 | (with_reducible apply EvO.nilT)
 | ((with_reducible apply EvO.gf); (case hW => exact rfl))
 | ((with_reducible apply EvO.gt0); (case hW => exact rfl); (case hx => first
 | ((with_reducible apply OpR.callF); (case hcal => exact rfl); (case hav => exact rfl); (case hx => exact rfl); (case hh => exact rfl); (case hm => exact rfl); (case hcl => exact h2); (case hr => exact rfl))
 | exact opq))
 | ((with_reducible apply EvO.u0); (case hx => first
 | ((with_reducible apply OpR.callF); (case hcal => exact rfl); (case hav => exact rfl); (case hx => exact rfl); (case hh => exact rfl); (case hm => exact rfl); (case hcl => exact h1); (case hr => exact rfl))
 | exact opq))
 | fail)
      exact ⟨.inr rfl, rfl⟩
    | true =>
      cases z with
      | false =>
        repeat' (first
 | (with_reducible apply EvK.seq)
 | ((with_reducible apply EvK.text); (try case hm => exact rfl))
 | (with_reducible apply EvK.ret)
 | (with_reducible apply EvO.nilT)
 | ((with_reducible apply EvO.gt0); (case hW => exact rfl); (case hx => first
 | ((with_reducible apply OpR.callF); (case hcal => exact rfl); (case hav => exact rfl); (case hx => exact rfl); (case hh => exact rfl); (case hm => exact rfl); (case hcl => exact h2); (case hr => exact rfl))
 | ((with_reducible apply OpR.callF); (case hcal => exact rfl); (case hav => exact rfl); (case hx => exact rfl); (case hh => exact rfl); (case hm => exact rfl); (case hcl => exact h3); (case hr => exact rfl))
 | exact opq))
 | ((with_reducible apply EvO.u0); (case hx => first
 | ((with_reducible apply OpR.callF); (case hcal => exact rfl); (case hav => exact rfl); (case hx => exact rfl); (case hh => exact rfl); (case hm => exact rfl); (case hcl => exact h1); (case hr => exact rfl))
 | exact opq))
 | fail)
        exact ⟨.inr rfl, rfl⟩
      | true =>
        repeat' (first
 | (with_reducible apply EvK.seq)
 | ((with_reducible apply EvK.text); (try case hm => exact rfl))
 | (with_reducible apply EvK.ret)
 | (with_reducible apply EvO.nilT)
 | ((with_reducible apply EvO.gt0); (case hW => exact rfl); (case hx => first
 | ((with_reducible apply OpR.callF); (case hcal => exact rfl); (case hav => exact rfl); (case hx => exact rfl); (case hh => exact rfl); (case hm => exact rfl); (case hcl => exact h2); (case hr => exact rfl))
 | ((with_reducible apply OpR.callF); (case hcal => exact rfl); (case hav => exact rfl); (case hx => exact rfl); (case hh => exact rfl); (case hm => exact rfl); (case hcl => exact h3); (case hr => exact rfl))
 | exact opq))
 | ((with_reducible apply EvO.u0); (case hx => first
 | ((with_reducible apply OpR.callF); (case hcal => exact rfl); (case hav => exact rfl); (case hx => exact rfl); (case hh => exact rfl); (case hm => exact rfl); (case hcl => exact h1); (case hr => exact rfl))
 | exact opq))
 | fail)
        exact ⟨.inr rfl, rfl⟩
theorem rbefore_c (a b : Ev) (ha : a.past.length ≤ 140737488351232) (hb : b.past.length ≤ 140737488351232) : Cl cfg 17 [.t (evA a), .t (evA b)] [] (.t (.bool (befB a b))) [] := by
  have h1 := rformed_c a ha
  have h2 := rformed_c b hb
  have h4 := rname32_c a
  have h3 := rhasd_c (a := b.past) (r := a.r) (n := a.n) hb
  unfold befB
  refine Cl.of_body rfl Tryz.func17 rfl rfl rfl ?_
  obtain ⟨x, hx⟩ : ∃ x, formB a = x := ⟨_, rfl⟩
  obtain ⟨y, hy⟩ : ∃ x, formB b = x := ⟨_, rfl⟩
  obtain ⟨z, hz⟩ : ∃ x, hasS b.past a.r a.n = x := ⟨_, rfl⟩
  rw [hx] at h1 ⊢
  rw [hy] at h2 ⊢
  rw [hz] at h3 ⊢
  rw [evA_cells b] at h2 ⊢
  cases x with
  | false =>
    repeat' (first
 | (with_reducible apply EvK.seq)
 | ((with_reducible apply EvK.text); (try case hm => exact rfl))
 | ((with_reducible apply EvK.drawn); (case hm => exact rfl))
 | (with_reducible apply EvK.ret)
 | (with_reducible apply EvO.nilT)
 | ((with_reducible apply EvO.gf); (case hW => exact rfl))
 | ((with_reducible apply EvO.u0); (case hx => first
 | ((with_reducible apply OpR.callF); (case hcal => exact rfl); (case hav => exact rfl); (case hx => exact rfl); (case hh => exact rfl); (case hm => exact rfl); (case hcl => exact h1); (case hr => exact rfl))
 | exact opq))
 | fail)
    exact ⟨.inr rfl, rfl⟩
  | true =>
    cases y with
    | false =>
      repeat' (first
 | (with_reducible apply EvK.seq)
 | ((with_reducible apply EvK.text); (try case hm => exact rfl))
 | ((with_reducible apply EvK.drawn); (case hm => exact rfl))
 | (with_reducible apply EvK.ret)
 | (with_reducible apply EvO.nilT)
 | ((with_reducible apply EvO.gf); (case hW => exact rfl))
 | ((with_reducible apply EvO.gt0); (case hW => exact rfl); (case hx => first
 | ((with_reducible apply OpR.callF); (case hcal => exact rfl); (case hav => exact rfl); (case hx => exact rfl); (case hh => exact rfl); (case hm => exact rfl); (case hcl => exact h2); (case hr => exact rfl))
 | exact opq))
 | ((with_reducible apply EvO.u0); (case hx => first
 | ((with_reducible apply OpR.callF); (case hcal => exact rfl); (case hav => exact rfl); (case hx => exact rfl); (case hh => exact rfl); (case hm => exact rfl); (case hcl => exact h1); (case hr => exact rfl))
 | exact opq))
 | fail)
      exact ⟨.inr rfl, rfl⟩
    | true =>
      cases z with
      | false =>
        repeat' (first
 | (with_reducible apply EvK.seq)
 | ((with_reducible apply EvK.text); (try case hm => exact rfl))
 | ((with_reducible apply EvK.drawn); (case hm => exact rfl))
 | (with_reducible apply EvK.ret)
 | (with_reducible apply EvO.nilT)
 | ((with_reducible apply EvO.gt0); (case hW => exact rfl); (case hx => first
 | ((with_reducible apply OpR.callF); (case hcal => exact rfl); (case hav => exact rfl); (case hx => exact rfl); (case hh => exact rfl); (case hm => exact rfl); (case hcl => exact h2); (case hr => exact rfl))
 | ((with_reducible apply OpR.callF); (case hcal => exact rfl); (case hav => exact rfl); (case hx => exact rfl); (case hh => exact rfl); (case hm => exact rfl); (case hcl => exact h4); (case hr => exact rfl))
 | ((with_reducible apply OpR.callF); (case hcal => exact rfl); (case hav => exact rfl); (case hx => exact rfl); (case hh => exact rfl); (case hm => exact rfl); (case hcl => exact h3); (case hr => exact rfl))
 | exact opq))
 | ((with_reducible apply EvO.u0); (case hx => first
 | ((with_reducible apply OpR.callF); (case hcal => exact rfl); (case hav => exact rfl); (case hx => exact rfl); (case hh => exact rfl); (case hm => exact rfl); (case hcl => exact h1); (case hr => exact rfl))
 | exact opq))
 | fail)
        exact ⟨.inr rfl, rfl⟩
      | true =>
        repeat' (first
 | (with_reducible apply EvK.seq)
 | ((with_reducible apply EvK.text); (try case hm => exact rfl))
 | ((with_reducible apply EvK.drawn); (case hm => exact rfl))
 | (with_reducible apply EvK.ret)
 | (with_reducible apply EvO.nilT)
 | ((with_reducible apply EvO.gt0); (case hW => exact rfl); (case hx => first
 | ((with_reducible apply OpR.callF); (case hcal => exact rfl); (case hav => exact rfl); (case hx => exact rfl); (case hh => exact rfl); (case hm => exact rfl); (case hcl => exact h2); (case hr => exact rfl))
 | ((with_reducible apply OpR.callF); (case hcal => exact rfl); (case hav => exact rfl); (case hx => exact rfl); (case hh => exact rfl); (case hm => exact rfl); (case hcl => exact h4); (case hr => exact rfl))
 | ((with_reducible apply OpR.callF); (case hcal => exact rfl); (case hav => exact rfl); (case hx => exact rfl); (case hh => exact rfl); (case hm => exact rfl); (case hcl => exact h3); (case hr => exact rfl))
 | exact opq))
 | ((with_reducible apply EvO.u0); (case hx => first
 | ((with_reducible apply OpR.callF); (case hcal => exact rfl); (case hav => exact rfl); (case hx => exact rfl); (case hh => exact rfl); (case hm => exact rfl); (case hcl => exact h1); (case hr => exact rfl))
 | exact opq))
 | fail)
        exact ⟨.inr rfl, rfl⟩
end Go.Proofs.YtgbfedgghjcdcaaGreatDoor

namespace Go.Proofs.YtgbfedgghjcdcaaGreatDoor
set_option linter.unusedSimpArgs false
set_option linter.unusedVariables false
set_option linter.unusedSectionVars false
open Go.RowKit
set_option maxRecDepth 100000
set_option maxHeartbeats 16000000

def evsE (l : List Ev) : List (List AV) := l.map evCs
theorem evsE_len (l : List Ev) : (evsE l).length = l.length := List.length_map _
theorem evsE_get {l : List Ev} {k : Nat} {e : Ev} (h : l[k]? = some e) : (evsE l)[k]? = some [.int .i64 e.r, .int .i64 e.n, .int .i64 e.t, intsA e.past, .int .i64 e.k, .int .i64 e.a, .int .i64 e.gk, .int .i64 e.gi, .int .i64 e.ge, .int .i64 e.ga, .int .i64 e.to, .int .i64 e.pl, .int .i64 e.se] := by
  unfold evsE; rw [List.getElem?_map, h]; rfl
def evV (l : List Ev) : List SV := l.map fun e => .t (evA e)
theorem evV_eq (l : List Ev) : evV l = (l.map evA).map .t := by simp [evV]
theorem frm {σ : Nat → Option Nat} {ks : List AV} {l : List Ev} {bs bs' : Fr} (h : bs = bs') : (Lb.map false ks (SV.subL σ (evV l)) :: bs) = Lb.map false ks (evV l) :: bs' := by rw [evV_eq, subL_trees, h]
theorem dot_eq (a b a' b' : Int) : eqC cfg.P 20 101 [.int .i64 a, .int .i64 b] [.int .i64 a', .int .i64 b'] = some (decide (a = a') && (decide (b = b') && true)) := by kernel_rfl
theorem take_succ' {α : Type} {l : List α} {q : Nat} {x : α} (h : l[q]? = some x) : l.take (q + 1) = l.take q ++ [x] := by
  rw [List.take_add_one, h]; rfl
structure Cl1 (l : List Ev) (m q : Nat) : Prop where
  form : ∀ e ∈ l.take q, formB e = true
  alike : ∀ e ∈ l.take q, e.past.length = m
  names : ((l.take q).map nm).Nodup
theorem Cl1.zero (l : List Ev) (m : Nat) : Cl1 l m 0 := ⟨fun e h => by simp at h, fun e h => by simp at h, by simp⟩
theorem Cl1.step {l : List Ev} {m q : Nat} {e : Ev} (h : Cl1 l m q) (he : l[q]? = some e) (hf : formB e = true) (ha : e.past.length = m) (hn : ∀ x ∈ l.take q, nm x ≠ nm e) : Cl1 l m (q + 1) where
  form := fun x hx => by
    rw [take_succ' he, List.mem_append, List.mem_singleton] at hx
    rcases hx with hx | rfl
    · exact h.form x hx
    · exact hf
  alike := fun x hx => by
    rw [take_succ' he, List.mem_append, List.mem_singleton] at hx
    rcases hx with hx | rfl
    · exact h.alike x hx
    · exact ha
  names := by
    rw [take_succ' he, List.map_append, List.nodup_append]
    refine ⟨h.names, by simp, fun a ha b hb => ?_⟩
    obtain ⟨x, hx, rfl⟩ := List.mem_map.1 ha
    simp only [List.map_cons, List.map_nil, List.mem_singleton] at hb
    subst hb
    exact hn x hx
end Go.Proofs.YtgbfedgghjcdcaaGreatDoor
