/- Law 52: SessionGuarantees, in plain Lean. No condition. -/
import Derived.Test.YtjdhnoffoknlnaaDoorWY
namespace Go.Proofs.YtjdhnoffoknlnaaDoor
set_option linter.unusedSimpArgs false
set_option linter.unusedVariables false
set_option linter.unusedSectionVars false
open Go.RowKit
set_option maxRecDepth 100000
set_option maxHeartbeats 8000000

theorem rCont_iff {a b : List Int} : rContB a b = true ↔ validB a = true ∧ validB b = true ∧ a.length = b.length ∧ ∀ (k : Nat) (x y : Int), a[k]? = some x → b[k]? = some y → y ≤ x := by
  unfold rContB
  simp only [Bool.and_eq_true, decide_eq_true_eq, List.all_eq_true]
  constructor
  · rintro ⟨⟨⟨h1, h2⟩, h3⟩, h4⟩
    refine ⟨h1, h2, h3, fun k x y hx hy => ?_⟩
    have := h4 (y, x) (List.mem_of_getElem? (zip_get hy hx))
    simpa [le2] using this
  · rintro ⟨h1, h2, h3, h4⟩
    refine ⟨⟨⟨h1, h2⟩, h3⟩, fun p hp => ?_⟩
    obtain ⟨k, hk⟩ := List.mem_iff_getElem?.1 hp
    rw [List.getElem?_zip_eq_some] at hk
    have := h4 k p.2 p.1 hk.2 hk.1
    simpa [le2] using this
theorem rCont_trans {a b d : List Int} (h1 : rContB a b = true) (h2 : rContB b d = true) : rContB a d = true := by
  rw [rCont_iff] at *
  obtain ⟨v1, v2, l1, p1⟩ := h1
  obtain ⟨v3, v4, l2, p2⟩ := h2
  refine ⟨v1, v4, by omega, fun k x y hx hy => ?_⟩
  obtain ⟨z, hz⟩ := get_of_lt (xs := b) (k := k) (by have := lt_of_get hx; omega)
  have := p1 k x z hx hz
  have := p2 k z y hz hy
  omega
theorem rHas_mono {a b : List Int} {e : Ev} (h0 : 0 ≤ e.r) (h1 : rContB a b = true) (h2 : rHasB b e = true) : rHasB a e = true := by
  rw [rCont_iff] at h1
  obtain ⟨v1, v2, l1, p1⟩ := h1
  simp only [rHasB, Bool.and_eq_true, decide_eq_true_eq] at *
  obtain ⟨h3, h4⟩ := h2
  obtain ⟨y, hy⟩ := get_of_lt (xs := b) (k := e.r.toNat) (by omega)
  obtain ⟨x, hx⟩ := get_of_lt (xs := a) (k := e.r.toNat) (by omega)
  rw [getD_get hy] at h4
  rw [getD_get hx]
  have := p1 _ x y hx hy
  exact ⟨by omega, by omega⟩
theorem zip_cont {a b : List Int} (ha : validB a = true) (hb : validB b = true) (h : a.length = b.length) : rContB (List.zipWith max a b) a = true ∧ rContB (List.zipWith max a b) b = true := by
  have hl : (List.zipWith max a b).length = a.length := by simp; omega
  have hv := zip_valid ha hb h
  constructor <;> rw [rCont_iff]
  · refine ⟨hv, ha, hl, fun k x y hx hy => ?_⟩
    obtain ⟨z, hz⟩ := get_of_lt (xs := b) (k := k) (by have := lt_of_get hy; omega)
    rw [List.getElem?_zipWith, hy, hz] at hx
    cases hx
    omega
  · refine ⟨hv, hb, by omega, fun k x y hx hy => ?_⟩
    obtain ⟨z, hz⟩ := get_of_lt (xs := a) (k := k) (by have := lt_of_get hy; omega)
    rw [List.getElem?_zipWith, hy, hz] at hx
    cases hx
    omega
/-- What a session's clock knows of an act that it has accepted. -/
def knows (c : List Int) (b : SAct) : Bool := if b.wr then rHasB c b.ev else rContB c b.cl
theorem knows_mono {n : Int} {a c : List Int} {b : SAct} (hb : rActB n b = true) (h1 : rContB a c = true) (h2 : knows c b = true) : knows a b = true := by
  have h0 := rActB_r hb
  unfold knows at *
  cases hw : b.wr with
  | true => rw [hw] at h2; exact rHas_mono h0 h1 h2
  | false => rw [hw] at h2; exact rCont_trans h1 h2
theorem act_write {n : Int} {a : SAct} (h : rActB n a = true) (hw : a.wr = true) : formB a.ev = true ∧ (a.ev.past.length : Int) = n := by
  unfold rActB at h
  rw [if_pos hw] at h
  simp at h
  exact ⟨h.1.2, h.2⟩
theorem act_read {n : Int} {a : SAct} (h : rActB n a = true) (hw : a.wr = false) : validB a.cl = true ∧ (a.cl.length : Int) = n := by
  unfold rActB at h
  rw [if_neg (by rw [hw]; decide)] at h
  simp at h
  exact ⟨h.1.1.1.1.1.1.1.1.1.1.1, h.1.1.1.1.1.1.1.1.1.1.2⟩
theorem code_zero {n : Int} {p : List SAct} {a : SAct} {c : List Int} (hp : ∀ b ∈ p, rActB n b = true ∧ knows c b = true) (ha : rActB n a = true) (hc : rContB (if a.wr then a.ev.past else a.cl) c = true) : gCode p a = 0 := by
  have hb : ∀ b ∈ p, b.wr = true → 0 ≤ b.ev.r ∧ 1 ≤ b.ev.n := fun b h hw => by
    have := act_write (hp b h).1 hw
    exact ⟨formB_r this.1, (formB_n this.1).1⟩
  refine gCode_none fun j hj => ?_
  unfold gHit
  cases hw : a.wr with
  | false =>
    rw [hw] at hc
    simp only [Bool.false_eq_true, if_false] at hc
    have hv := (act_read ha hw).1
    match j, hj with
    | 0, _ =>
      have : p.any (gBrk 0 a) = false := by
        rw [List.any_eq_false]
        intro b hbm
        have hk := (hp b hbm).2
        show ¬ brk1 a b = true
        unfold brk1
        rw [cont_eq]
        unfold knows at hk
        cases hbw : b.wr with
        | true => simp
        | false => rw [hbw] at hk; simp only [Bool.false_eq_true, if_false] at hk; rw [rCont_trans hc hk]; decide
      rw [this]; rfl
    | 1, _ =>
      have : p.any (gBrk 1 a) = false := by
        rw [List.any_eq_false]
        intro b hbm
        have hk := (hp b hbm).2
        show ¬ brk2 a b = true
        unfold brk2
        unfold knows at hk
        cases hbw : b.wr with
        | false => simp
        | true =>
          obtain ⟨h0, h1⟩ := hb b hbm hbw
          rw [hbw] at hk
          rw [has_eq hv h0 h1, rHas_mono h0 hc hk]
          decide
      rw [this]; rfl
    | 2, _ => rfl
    | 3, _ => rfl
  | true =>
    rw [hw] at hc
    simp only [if_true] at hc
    have hv := (formB_n (act_write ha hw).1).2
    match j, hj with
    | 0, _ => rfl
    | 1, _ => rfl
    | 2, _ =>
      have : p.any (gBrk 2 a) = false := by
        rw [List.any_eq_false]
        intro b hbm
        have hk := (hp b hbm).2
        show ¬ brk3 a b = true
        unfold brk3
        unfold knows at hk
        cases hbw : b.wr with
        | false => simp
        | true =>
          obtain ⟨h0, h1⟩ := hb b hbm hbw
          rw [hbw] at hk
          rw [has_eq hv h0 h1, rHas_mono h0 hc hk]
          decide
      rw [this]; rfl
    | 3, _ =>
      have : p.any (gBrk 3 a) = false := by
        rw [List.any_eq_false]
        intro b hbm
        have hk := (hp b hbm).2
        show ¬ brk4 a b = true
        unfold brk4
        rw [cont_eq]
        unfold knows at hk
        cases hbw : b.wr with
        | true => simp
        | false => rw [hbw] at hk; simp only [Bool.false_eq_true, if_false] at hk; rw [rCont_trans hc hk]; decide
      rw [this]; rfl
theorem go_snoc {n : Int} {x : SAct} (hx : properB x n = true) : ∀ (r p : List SAct), gCode (p ++ r) x = 0 → goS n p r = (0, -1) → goS n p (r ++ [x]) = (0, -1)
  | [], p, h, _ => by
    rw [List.append_nil] at h
    show goS n p [x] = _
    rw [goS_cons, if_pos hx, if_pos h]
    rfl
  | a :: r, p, h, hg => by
    rw [List.cons_append, goS_cons]
    rw [goS_cons] at hg
    cases ha : properB a n with
    | false => rw [ha] at hg; simp at hg
    | true =>
      rw [ha, if_pos rfl] at hg
      rw [if_pos rfl]
      by_cases hc : gCode p a = 0
      · rw [if_pos hc] at hg ⊢
        exact go_snoc hx r (p ++ [a]) (by rw [List.append_assoc]; exact h) hg
      · rw [if_neg hc] at hg
        have := congrArg Prod.fst hg
        exact absurd this hc
/-- What holds of a session's clock and the acts accepted. -/
def Okay (n : Int) (c : List Int) (p : List SAct) : Prop := validB c = true ∧ (c.length : Int) = n ∧ (∀ b ∈ p, rActB n b = true ∧ knows c b = true) ∧ goS n [] p = (0, -1)
theorem okay_step {n : Int} {c c' : List Int} {p : List SAct} {a : SAct} (h : Okay n c p) (ha : rActB n a = true) (hc : rContB (if a.wr then a.ev.past else a.cl) c = true) (h1 : rContB c' c = true) (h2 : knows c' a = true) : Okay n c' (p ++ [a]) := by
  obtain ⟨hv, hl, hk, hg⟩ := h
  have hr := rCont_iff.1 h1
  refine ⟨hr.1, by rw [hr.2.2.1]; exact hl, fun b hb => ?_, go_snoc (by rw [proper_eq]; exact ha) p [] (code_zero hk ha hc) hg⟩
  rcases List.mem_append.1 hb with hb | hb
  · exact ⟨(hk b hb).1, knows_mono (hk b hb).1 h1 (hk b hb).2⟩
  · simp at hb; subst hb; exact ⟨ha, h2⟩
end Go.Proofs.YtjdhnoffoknlnaaDoor
