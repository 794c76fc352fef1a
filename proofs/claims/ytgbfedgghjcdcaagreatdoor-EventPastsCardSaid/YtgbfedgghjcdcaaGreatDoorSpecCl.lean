/- Closed lists of events, in plain Lean. No condition. -/
import Derived.Test.YtgbfedgghjcdcaaGreatDoorSpecE
namespace Go.Proofs.YtgbfedgghjcdcaaGreatDoor
set_option linter.unusedSimpArgs false
set_option linter.unusedVariables false
set_option linter.unusedSectionVars false

def nm (e : Ev) : Int × Int := (e.r, e.n)
/-- The names that a clock contains. -/
def dotsF : Nat → List Int → List (Int × Int)
  | _, [] => []
  | r, n :: c => (List.range n.toNat).map (fun i : Nat => ((r : Int), (i : Int) + 1)) ++ dotsF (r + 1) c
def befB (a b : Ev) : Bool := formB a && (formB b && hasS b.past a.r a.n)
/-- When events are a closed list. -/
structure ClosedP (l : List Ev) : Prop where
  few : l.length ≤ 1024
  form : ∀ e ∈ l, formB e = true
  alike : ∀ e ∈ l, ∀ x ∈ l, e.past.length = x.past.length
  names : (l.map nm).Nodup
  down : ∀ e ∈ l, ∀ r n, hasS e.past r n = true → ∃ x ∈ l, nm x = (r, n) ∧ insideB x.past e.past = true ∧ x.t < e.t
open Classical in
noncomputable def closedB (l : List Ev) : Bool := decide (ClosedP l)
section
open Classical
theorem closedB_t {l : List Ev} (h : ClosedP l) : closedB l = true := by unfold closedB; exact decide_eq_true h
theorem closedB_f {l : List Ev} (h : ¬ ClosedP l) : closedB l = false := by unfold closedB; exact decide_eq_false h
theorem closedB_iff {l : List Ev} : closedB l = true ↔ ClosedP l := by unfold closedB; exact decide_eq_true_iff
end

theorem dots_mem {p : Int × Int} : ∀ (c : List Int) (r : Nat), p ∈ dotsF r c ↔ ∃ k, k < c.length ∧ p.1 = (r + k : Nat) ∧ 1 ≤ p.2 ∧ p.2 ≤ c.getD k 0
  | [], r => by simp [dotsF]
  | n :: c, r => by
    rw [dotsF, List.mem_append, dots_mem c (r + 1)]
    constructor
    · rintro (h | ⟨k, h1, h2, h3, h4⟩)
      · simp only [List.mem_map, List.mem_range] at h
        obtain ⟨i, hi, rfl⟩ := h
        refine ⟨0, by simp, by simp, by dsimp only; omega, ?_⟩
        show (i : Int) + 1 ≤ n
        omega
      · refine ⟨k + 1, by simp; omega, by omega, h3, ?_⟩
        simpa using h4
    · rintro ⟨k, h1, h2, h3, h4⟩
      cases k with
      | zero =>
        left
        have h4 : p.2 ≤ n := by simpa using h4
        simp only [List.mem_map, List.mem_range]
        refine ⟨(p.2 - 1).toNat, by omega, ?_⟩
        obtain ⟨p1, p2⟩ := p
        simp only [Prod.mk.injEq]
        simp at h2 h3
        constructor <;> omega
      | succ k =>
        right
        exact ⟨k, by simp at h1; omega, by omega, h3, by simpa using h4⟩
theorem dots_has {c : List Int} (hv : validB c = true) {r n : Int} : (r, n) ∈ dotsF 0 c ↔ hasS c r n = true := by
  rw [dots_mem]
  unfold hasS
  simp only [hv, Bool.true_and, Bool.and_eq_true, decide_eq_true_eq]
  constructor
  · rintro ⟨k, h1, h2, h3, h4⟩
    have h2 : r = (k : Int) := by simpa using h2
    subst h2
    exact ⟨by omega, by omega, h3, by simpa using h4⟩
  · rintro ⟨h1, h2, h3, h4⟩
    exact ⟨r.toNat, by omega, by simp; omega, h3, h4⟩
theorem nodup_map {α β : Type} {f : α → β} (hf : ∀ a b, f a = f b → a = b) : ∀ {l : List α}, l.Nodup → (l.map f).Nodup
  | [], _ => List.nodup_nil
  | x :: l, h => by
    have h := List.nodup_cons.1 h
    rw [List.map_cons, List.nodup_cons]
    refine ⟨fun hm => ?_, nodup_map hf h.2⟩
    obtain ⟨y, hy, e⟩ := List.mem_map.1 hm
    rw [hf _ _ e] at hy
    exact h.1 hy
theorem dots_nodup : ∀ (c : List Int) (r : Nat), (dotsF r c).Nodup
  | [], r => List.nodup_nil
  | n :: c, r => by
    rw [dotsF, List.nodup_append]
    refine ⟨nodup_map (fun a b h => by simp only [Prod.mk.injEq] at h; omega) List.nodup_range, dots_nodup c (r + 1), fun a ha b hb e => ?_⟩
    subst e
    obtain ⟨i, _, rfl⟩ := List.mem_map.1 ha
    obtain ⟨k, _, h2, _⟩ := (dots_mem c (r + 1)).1 hb
    dsimp only at h2
    omega
theorem foldl_add : ∀ (c : List Int) (a : Int), c.foldl (· + ·) a = a + c.foldl (· + ·) 0
  | [], a => by simp
  | x :: c, a => by
    rw [List.foldl_cons, List.foldl_cons, foldl_add c (a + x), foldl_add c (0 + x)]
    omega
theorem dots_len : ∀ (c : List Int) (r : Nat), (∀ n ∈ c, 0 ≤ n) → ((dotsF r c).length : Int) = sumL c
  | [], r, _ => rfl
  | n :: c, r, h => by
    have ih := dots_len c (r + 1) (fun x hx => h x (by simp [hx]))
    have h0 := h n (by simp)
    rw [dotsF, List.length_append, List.length_map, List.length_range]
    unfold sumL at ih ⊢
    rw [List.foldl_cons, foldl_add c (0 + n), ← ih]
    omega
section
variable {α : Type} [DecidableEq α]
theorem nd_le : ∀ {L D : List α}, L.Nodup → (∀ x ∈ L, x ∈ D) → L.length ≤ D.length ∧ (L.length = D.length → ∀ x ∈ D, x ∈ L)
  | [], D, _, _ => ⟨by simp, fun h x hx => by
    have : D = [] := List.length_eq_zero_iff.1 (by simpa using h.symm)
    subst this; cases hx⟩
  | y :: L, D, hL, hs => by
    have hy := hs y (by simp)
    have hL' := List.nodup_cons.1 hL
    have hlen := List.length_erase_of_mem hy
    have hpos : 0 < D.length := List.length_pos_of_mem hy
    have ih := nd_le (L := L) (D := D.erase y) hL'.2 (fun x hx => (List.mem_erase_of_ne (fun e => by subst e; exact hL'.1 hx)).2 (hs x (by simp [hx])))
    refine ⟨by simp; omega, fun he x hx => ?_⟩
    by_cases e : x = y
    · simp [e]
    · have := ih.2 (by simp at he; omega) x ((List.mem_erase_of_ne e).2 hx)
      simp [this]
/-- Some names without repetition: as many of them are among others as there are of these exactly if all of these are among them. -/
theorem nd_iff {L D : List α} {p : α → Bool} (hp : ∀ x, p x = true ↔ x ∈ D) (hL : L.Nodup) (hD : D.Nodup) : L.countP p = D.length ↔ ∀ x ∈ D, x ∈ L := by
  rw [List.countP_eq_length_filter]
  have hF : (L.filter p).Nodup := hL.filter _
  have hs : ∀ x ∈ L.filter p, x ∈ D := fun x hx => (hp x).1 (List.mem_filter.1 hx).2
  constructor
  · intro h x hx
    exact (List.mem_filter.1 ((nd_le hF hs).2 h x hx)).1
  · intro h
    have h1 := (nd_le hF hs).1
    have h2 := (nd_le (L := D) (D := L.filter p) hD (fun x hx => List.mem_filter.2 ⟨h x hx, (hp x).2 hx⟩)).1
    omega
end
theorem form_valid {e : Ev} (h : formB e = true) : validB e.past = true := by
  simp only [formB, headOk, Bool.and_eq_true] at h
  exact h.1.1
theorem valid_nn {c : List Int} (h : validB c = true) : ∀ n ∈ c, 0 ≤ n := fun n hn => by
  obtain ⟨k, hk, rfl⟩ := List.mem_iff_getElem.1 hn
  exact (ok1_at h (List.getElem?_eq_getElem hk)).1
/-- How many events are before one. -/
def nIn (l : List Ev) (e : Ev) : Nat := l.countP fun x => befB x e
theorem nIn_iff {l : List Ev} (hf : ∀ e ∈ l, formB e = true) (hn : (l.map nm).Nodup) {e : Ev} (he : formB e = true) : (nIn l e : Int) = countS e.past ↔ ∀ r n, hasS e.past r n = true → ∃ x ∈ l, nm x = (r, n) := by
  have hv := form_valid he
  have h1 : countS e.past = ((dotsF 0 e.past).length : Int) := by rw [countS, if_pos hv, dots_len _ _ (valid_nn hv)]
  have h2 : nIn l e = (l.map nm).countP (fun p => decide (p ∈ dotsF 0 e.past)) := by
    unfold nIn
    rw [List.countP_map]
    refine List.countP_congr fun x hx => ?_
    simp only [befB, hf x hx, he, Bool.true_and, Function.comp, decide_eq_true_eq]
    exact (dots_has hv).symm
  rw [h1, h2]
  have := nd_iff (p := fun p => decide (p ∈ dotsF 0 e.past)) (fun x => decide_eq_true_iff) hn (dots_nodup e.past 0)
  constructor
  · intro h r n hh
    have := this.1 (by omega) (r, n) ((dots_has hv).2 hh)
    obtain ⟨x, hx, ex⟩ := List.mem_map.1 this
    exact ⟨x, hx, ex⟩
  · intro h
    have := this.2 (fun p hp => by
      obtain ⟨x, hx, ex⟩ := h p.1 p.2 ((dots_has hv).1 hp)
      exact List.mem_map.2 ⟨x, hx, ex⟩)
    omega
theorem nm_inj {l : List Ev} (hn : (l.map nm).Nodup) : ∀ {x y : Ev}, x ∈ l → y ∈ l → nm x = nm y → x = y := by
  induction l with
  | nil => intro x y hx; cases hx
  | cons z l ih =>
    intro x y hx hy e
    rw [List.map_cons, List.nodup_cons] at hn
    rcases List.mem_cons.1 hx with h1 | h1 <;> rcases List.mem_cons.1 hy with h2 | h2
    · rw [h1, h2]
    · subst h1; exact absurd (List.mem_map.2 ⟨y, h2, e.symm⟩) hn.1
    · subst h2; exact absurd (List.mem_map.2 ⟨x, h1, e⟩) hn.1
    · exact ih hn.2 h1 h2 e
/-- What the reference asks of each event. -/
structure ClosedR (l : List Ev) (e : Ev) : Prop where
  inside : ∀ x ∈ l, befB x e = true → insideB x.past e.past = true ∧ x.t < e.t
  count : (nIn l e : Int) = countS e.past
theorem closed_ref {l : List Ev} (few : l.length ≤ 1024) (form : ∀ e ∈ l, formB e = true) (alike : ∀ e ∈ l, ∀ x ∈ l, e.past.length = x.past.length) (names : (l.map nm).Nodup) : ClosedP l ↔ ∀ e ∈ l, ClosedR l e := by
  constructor
  · intro h e he
    have hf := form e he
    refine ⟨fun x hx hb => ?_, (nIn_iff form names hf).2 fun r n hh => ?_⟩
    · simp only [befB, Bool.and_eq_true] at hb
      obtain ⟨y, hy, ey, h1, h2⟩ := h.down e he _ _ hb.2.2
      obtain rfl := nm_inj names hy hx ey
      exact ⟨h1, h2⟩
    · obtain ⟨x, hx, ex, _⟩ := h.down e he r n hh
      exact ⟨x, hx, ex⟩
  · intro h
    refine ⟨few, form, alike, names, fun e he r n hh => ?_⟩
    obtain ⟨x, hx, ex⟩ := (nIn_iff form names (form e he)).1 (h e he).count r n hh
    have hb : befB x e = true := by
      simp only [nm, Prod.mk.injEq] at ex
      simp [befB, form x hx, form e he, ex.1, ex.2, hh]
    exact ⟨x, hx, ex, (h e he).inside x hx hb⟩
end Go.Proofs.YtgbfedgghjcdcaaGreatDoor
