/- Law 52: the plain law: both Checks agree. No condition. -/
import Derived.Test.YtjdhnoffoknlnaaDoorWO
namespace Go.Proofs.YtjdhnoffoknlnaaDoor
set_option linter.unusedSimpArgs false
set_option linter.unusedVariables false
set_option linter.unusedSectionVars false
open Go.RowKit

theorem proper_eq (a : SAct) (n : Int) : properB a n = rActB n a := by
  rw [Bool.eq_iff_iff]
  unfold properB rActB
  cases a.wr
  · simp only [Bool.false_eq_true, if_false]
    simp [emptyB, needZ, nz]
    constructor <;> intro h <;> simp [h]
  · simp only [if_true]
    simp
    constructor <;> intro h <;> simp [h]
theorem cont_eq (a b : List Int) : contB a b = rContB a b := by
  rw [Bool.eq_iff_iff]
  unfold contB rContB alikeB insideB
  simp [al1]
  intro _
  constructor
  · rintro ⟨h1, h2, h3⟩; exact ⟨⟨h1, h2⟩, h3.symm⟩
  · rintro ⟨⟨h1, h2⟩, h3⟩; exact ⟨h1, h2, h3.symm⟩
theorem formB_n {e : Ev} (h : formB e = true) : 1 ≤ e.n ∧ validB e.past = true := by
  simp [formB, headOk, betB] at h
  obtain ⟨⟨hv, ⟨h0, h1⟩, hn, _⟩, _⟩ := h
  refine ⟨?_, hv⟩
  obtain ⟨x, hx⟩ := get_of_lt (xs := e.past) (k := e.r.toNat) (by omega)
  have := ok1_at hv hx
  rw [hx] at hn
  simp at hn
  omega
theorem has_eq {c : List Int} {e : Ev} (hv : validB c = true) (h0 : 0 ≤ e.r) (h1 : 1 ≤ e.n) : hasS c e.r e.n = rHasB c e := by
  simp [hasS, rHasB, hv, h0, h1]
def lowOf (lo hi : Int) (b1 b2 : Bool) : Int := if b1 then lo else if b2 then hi else 0
theorem brk_fold {a : SAct} {lo hi : Int} (h0 : 0 < lo) (h1 : lo < hi) {p1 p2 : SAct → Bool} : ∀ (p : List SAct) (b1 b2 : Bool), (∀ y ∈ p, refG a y = lowOf lo hi (p1 y) (p2 y)) → p.foldl (brkStep a) (lowOf lo hi b1 b2) = lowOf lo hi (b1 || p.any p1) (b2 || p.any p2)
  | [], b1, b2, _ => by simp
  | y :: p, b1, b2, h => by
    have hy := h y List.mem_cons_self
    have : brkStep a (lowOf lo hi b1 b2) y = lowOf lo hi (b1 || p1 y) (b2 || p2 y) := by
      unfold brkStep
      rw [hy]
      cases b1 <;> cases b2 <;> cases p1 y <;> cases p2 y <;> simp [lowOf] <;> omega
    rw [List.foldl_cons, this, brk_fold h0 h1 p _ _ fun z hz => h z (List.mem_cons_of_mem _ hz)]
    simp [Bool.or_assoc]
theorem code_eq {n : Int} {p : List SAct} {a : SAct} (hp : ∀ b ∈ p, properB b n = true) (ha : properB a n = true) : gCode p a = brokenS p a := by
  unfold brokenS
  have hb : ∀ b ∈ p, b.wr = true → 0 ≤ b.ev.r ∧ 1 ≤ b.ev.n := fun b h hw => by
    have := hp b h
    unfold properB at this
    rw [if_pos hw] at this
    simp at this
    exact ⟨formB_r this.2.1, (formB_n this.2.1).1⟩
  cases hw : a.wr with
  | false =>
    unfold properB at ha
    rw [hw] at ha
    simp at ha
    have := brk_fold (a := a) (lo := 1) (hi := 2) (by omega) (by omega) (p1 := brk1 a) (p2 := brk2 a) p false false fun y hy => by
      unfold refG
      rw [hw]
      cases hy' : y.wr with
      | false => simp only [brk1, brk2, hy', cont_eq]; cases rContB a.cl y.cl <;> rfl
      | true =>
        obtain ⟨h1, h2⟩ := hb y hy hy'
        simp only [brk1, brk2, hy', has_eq ha.1.2 h1 h2]; cases rHasB a.cl y.ev <;> rfl
    show _ = p.foldl (brkStep a) (lowOf 1 2 false false)
    rw [this]
    have e0 : gAct 0 = false := rfl
    have e1 : gAct 1 = false := rfl
    have e2 : gAct 2 = true := rfl
    have e3 : gAct 3 = true := rfl
    simp [gCode, gHit, e0, e1, e2, e3, hw, gBrk, lowOf]
  | true =>
    unfold properB at ha
    rw [hw] at ha
    simp at ha
    have hv := (formB_n ha.2.1).2
    have := brk_fold (a := a) (lo := 3) (hi := 4) (by omega) (by omega) (p1 := brk3 a) (p2 := brk4 a) p false false fun y hy => by
      unfold refG
      rw [hw]
      cases hy' : y.wr with
      | false => simp only [brk3, brk4, hy', cont_eq]; cases rContB a.ev.past y.cl <;> rfl
      | true =>
        obtain ⟨h1, h2⟩ := hb y hy hy'
        simp only [brk3, brk4, hy', has_eq hv h1 h2]; cases rHasB a.ev.past y.ev <;> rfl
    show _ = p.foldl (brkStep a) (lowOf 3 4 false false)
    rw [this]
    have e0 : gAct 0 = false := rfl
    have e1 : gAct 1 = false := rfl
    have e2 : gAct 2 = true := rfl
    have e3 : gAct 3 = true := rfl
    simp [gCode, gHit, e0, e1, e2, e3, hw, gBrk, lowOf]
theorem go_eq (n : Int) : ∀ (r p : List SAct), (∀ b ∈ p, properB b n = true) → goS n p r = goR n p r
  | [], p, _ => rfl
  | a :: r, p, hp => by
    rw [goS_cons, goR_cons, ← proper_eq]
    cases ha : properB a n with
    | false => rfl
    | true =>
      rw [code_eq hp ha, go_eq n r (p ++ [a]) fun b hb => ?_]
      rcases List.mem_append.1 hb with h | h
      · exact hp b h
      · simp at h; subst h; exact ha
theorem check_eq (n : Int) (l : List SAct) : checkS n l = rcheckS n l := by
  unfold checkS rcheckS
  rw [go_eq n l [] (by simp)]
end Go.Proofs.YtjdhnoffoknlnaaDoor
