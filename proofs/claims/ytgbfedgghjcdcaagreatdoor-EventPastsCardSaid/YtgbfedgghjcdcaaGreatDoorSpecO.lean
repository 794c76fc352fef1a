/- Stable sorting, in plain Lean: insertion, merging, merging by rotations. No condition. -/
import Derived.Test.YtgbfedgghjcdcaaGreatDoorSpecLx
namespace Go.Proofs.YtgbfedgghjcdcaaGreatDoor
set_option linter.unusedSimpArgs false
set_option linter.unusedVariables false
set_option linter.unusedSectionVars false

section
variable {α : Type}
/-- What is asked of an order. -/
structure Ordr (lt : α → α → Bool) : Prop where
  asym : ∀ a b, lt a b = true → lt b a = false
  ntr : ∀ a b c, lt a b = false → lt b c = false → lt a c = false
variable (lt : α → α → Bool)
/-- Merging: from the left where the right one is not less. -/
def mrg : List α → List α → List α
  | [], b => b
  | x :: a, [] => x :: a
  | x :: a, y :: b => if lt y x = true then y :: mrg (x :: a) b else x :: mrg a (y :: b)
termination_by a b => a.length + b.length
/-- Putting an element behind all that are not greater, from the end. -/
def insR (x : α) (l : List α) : List α := mrg lt l [x]
def isort (l : List α) : List α := l.foldl (fun o x => insR lt x o) []
def Srt (l : List α) : Prop := l.Pairwise fun a b => lt b a = false
variable {lt}
theorem mrg_nil_l (b : List α) : mrg lt [] b = b := by unfold mrg; rfl
theorem mrg_nil_r (a : List α) : mrg lt a [] = a := by cases a <;> (unfold mrg; rfl)
theorem mrg_r {x y : α} {a b : List α} (h : lt y x = true) : mrg lt (x :: a) (y :: b) = y :: mrg lt (x :: a) b := by rw [mrg, if_pos h]
theorem mrg_l {x y : α} {a b : List α} (h : lt y x = false) : mrg lt (x :: a) (y :: b) = x :: mrg lt a (y :: b) := by rw [mrg, if_neg (by simp [h])]
theorem mrg_mem {z : α} : ∀ (a b : List α), z ∈ mrg lt a b → z ∈ a ∨ z ∈ b
  | [], b, h => by rw [mrg_nil_l] at h; exact .inr h
  | x :: a, [], h => by rw [mrg_nil_r] at h; exact .inl h
  | x :: a, y :: b, h => by
    cases hl : lt y x with
    | true =>
      rw [mrg_r hl] at h
      rcases List.mem_cons.1 h with h | h
      · exact .inr (by simp [h])
      · rcases mrg_mem (x :: a) b h with h | h
        · exact .inl h
        · exact .inr (by simp [h])
    | false =>
      rw [mrg_l hl] at h
      rcases List.mem_cons.1 h with h | h
      · exact .inl (by simp [h])
      · rcases mrg_mem a (y :: b) h with h | h
        · exact .inl (by simp [h])
        · exact .inr h
termination_by a b => a.length + b.length
theorem mrg_srt (O : Ordr lt) : ∀ (a b : List α), Srt lt a → Srt lt b → Srt lt (mrg lt a b)
  | [], b, _, hb => by rw [mrg_nil_l]; exact hb
  | x :: a, [], ha, _ => by rw [mrg_nil_r]; exact ha
  | x :: a, y :: b, ha, hb => by
    have ha' := List.pairwise_cons.1 ha
    have hb' := List.pairwise_cons.1 hb
    cases hl : lt y x with
    | true =>
      rw [mrg_r hl]
      refine List.pairwise_cons.2 ⟨fun z hz => ?_, mrg_srt O (x :: a) b ha hb'.2⟩
      rcases mrg_mem _ _ hz with h | h
      · rcases List.mem_cons.1 h with h | h
        · subst h; exact O.asym _ _ hl
        · exact O.ntr _ _ _ (ha'.1 z h) (O.asym _ _ hl)
      · exact hb'.1 z h
    | false =>
      rw [mrg_l hl]
      refine List.pairwise_cons.2 ⟨fun z hz => ?_, mrg_srt O a (y :: b) ha'.2 hb⟩
      rcases mrg_mem _ _ hz with h | h
      · exact ha'.1 z h
      · rcases List.mem_cons.1 h with h | h
        · subst h; exact hl
        · exact O.ntr _ _ _ (hb'.1 z h) hl
termination_by a b => a.length + b.length
theorem mrg_len : ∀ (a b : List α), (mrg lt a b).length = a.length + b.length
  | [], b => by rw [mrg_nil_l]; simp
  | x :: a, [] => by rw [mrg_nil_r]; simp
  | x :: a, y :: b => by
    cases hl : lt y x with
    | true => rw [mrg_r hl]; have := mrg_len (x :: a) b; simp at this ⊢; omega
    | false => rw [mrg_l hl]; have := mrg_len a (y :: b); simp at this ⊢; omega
termination_by a b => a.length + b.length
/-- Two parts that are merged by themselves. -/
theorem mrg_app : ∀ (a1 b1 : List α) {a2 b2 : List α}, (∀ a ∈ a1, ∀ b ∈ b2, lt b a = false) → (∀ b ∈ b1, ∀ a ∈ a2, lt b a = true) → mrg lt (a1 ++ a2) (b1 ++ b2) = mrg lt a1 b1 ++ mrg lt a2 b2
  | [], [], a2, b2, _, _ => by simp [mrg_nil_l]
  | [], y :: b1, a2, b2, h1, h2 => by
    have ih := mrg_app [] b1 (a2 := a2) (b2 := b2) (by simp) (fun b hb a ha => h2 b (by simp [hb]) a ha)
    rw [mrg_nil_l, List.nil_append] at *
    cases a2 with
    | nil => simp [mrg_nil_l]
    | cons x a2 =>
      rw [List.cons_append, mrg_r (h2 y (by simp) x (by simp)), ih]; rfl
  | x :: a1, [], a2, b2, h1, h2 => by
    have ih := mrg_app a1 [] (a2 := a2) (b2 := b2) (fun a ha b hb => h1 a (by simp [ha]) b hb) (by simp)
    rw [mrg_nil_r, List.nil_append] at *
    cases b2 with
    | nil => simp [mrg_nil_r]
    | cons y b2 =>
      rw [List.cons_append, mrg_l (h1 x (by simp) y (by simp)), ih]; rfl
  | x :: a1, y :: b1, a2, b2, h1, h2 => by
    rw [List.cons_append, List.cons_append]
    cases hl : lt y x with
    | true =>
      have ih := mrg_app (x :: a1) b1 (a2 := a2) (b2 := b2) h1 (fun b hb a ha => h2 b (by simp [hb]) a ha)
      rw [List.cons_append] at ih
      rw [mrg_r hl, mrg_r hl, ih]; rfl
    | false =>
      have ih := mrg_app a1 (y :: b1) (a2 := a2) (b2 := b2) (fun a ha b hb => h1 a (by simp [ha]) b hb) h2
      rw [List.cons_append] at ih
      rw [mrg_l hl, mrg_l hl, ih]; rfl
termination_by a b => a.length + b.length
theorem mrg_assoc (O : Ordr lt) : ∀ (a b c : List α), Srt lt a → Srt lt b → Srt lt c → mrg lt (mrg lt a b) c = mrg lt a (mrg lt b c)
  | [], b, c, _, _, _ => by rw [mrg_nil_l, mrg_nil_l]
  | x :: a, [], c, _, _, _ => by rw [mrg_nil_r, mrg_nil_l]
  | x :: a, y :: b, [], _, _, _ => by rw [mrg_nil_r, mrg_nil_r]
  | x :: a, y :: b, z :: c, ha, hb, hc => by
    have ha' := (List.pairwise_cons.1 ha).2
    have hb' := (List.pairwise_cons.1 hb).2
    have hc' := (List.pairwise_cons.1 hc).2
    cases hl : lt y x with
    | true =>
      rw [mrg_r hl]
      cases hz : lt z y with
      | true =>
        have hzx : lt z x = true := by
          cases h : lt z x with
          | true => rfl
          | false => have := O.ntr _ _ _ h (O.asym _ _ hl); rw [hz] at this; cases this
        rw [mrg_r hz, mrg_r hz, mrg_r hzx, ← mrg_assoc O (x :: a) (y :: b) c ha hb hc', mrg_r hl]
      | false =>
        rw [mrg_l hz, mrg_l hz, mrg_r hl, mrg_assoc O (x :: a) b (z :: c) ha hb' hc]
    | false =>
      rw [mrg_l hl]
      cases hz : lt z x with
      | true =>
        have hzy : lt z y = true := by
          cases h : lt z y with
          | true => rfl
          | false => have := O.ntr _ _ _ h hl; rw [hz] at this; cases this
        rw [mrg_r hz, mrg_r hzy, mrg_r hz, ← mrg_assoc O (x :: a) (y :: b) c ha hb hc', mrg_l hl]
      | false =>
        rw [mrg_l hz, mrg_assoc O a (y :: b) (z :: c) ha' hb hc]
        cases hzy : lt z y with
        | true => rw [mrg_r hzy, mrg_l hz]
        | false => rw [mrg_l hzy, mrg_l hl]
termination_by a b c => a.length + b.length + c.length
theorem isort_snoc (l : List α) (x : α) : isort lt (l ++ [x]) = insR lt x (isort lt l) := by simp [isort]
theorem isort_srt (O : Ordr lt) : ∀ (n : Nat) (l : List α), l.length = n → Srt lt (isort lt l)
  | 0, l, h => by rw [List.length_eq_zero_iff.1 h]; exact List.Pairwise.nil
  | n + 1, l, h => by
    rcases List.eq_nil_or_concat l with rfl | ⟨l0, x, rfl⟩
    · exact List.Pairwise.nil
    · rw [List.concat_eq_append, isort_snoc]
      exact mrg_srt O _ _ (isort_srt O n l0 (by simpa using h)) (by simp [Srt])
theorem isort_len : ∀ (n : Nat) (l : List α), l.length = n → (isort lt l).length = n
  | 0, l, h => by rw [List.length_eq_zero_iff.1 h]; rfl
  | n + 1, l, h => by
    rcases List.eq_nil_or_concat l with rfl | ⟨l0, x, rfl⟩
    · simp at h
    · rw [List.concat_eq_append, isort_snoc, insR, mrg_len, isort_len n l0 (by simpa using h)]; rfl
theorem isort_app (O : Ordr lt) (a : List α) : ∀ (n : Nat) (b : List α), b.length = n → isort lt (a ++ b) = mrg lt (isort lt a) (isort lt b)
  | 0, b, h => by rw [List.length_eq_zero_iff.1 h, List.append_nil]; exact (mrg_nil_r _).symm
  | n + 1, b, h => by
    rcases List.eq_nil_or_concat b with rfl | ⟨b0, x, rfl⟩
    · rw [List.append_nil]; exact (mrg_nil_r _).symm
    · rw [List.concat_eq_append, ← List.append_assoc, isort_snoc, isort_snoc, isort_app O a n b0 (by simpa using h), insR, insR]
      exact mrg_assoc O _ _ _ (isort_srt O _ a rfl) (isort_srt O _ b0 rfl) (by simp [Srt])
/-- An element put into a sorted list: where. -/
theorem insR_at (x : α) : ∀ (l1 l2 : List α), (∀ a ∈ l1, lt x a = false) → (∀ a ∈ l2, lt x a = true) → insR lt x (l1 ++ l2) = l1 ++ x :: l2
  | l1, l2, h1, h2 => by
    have := mrg_app (lt := lt) l1 [] (a2 := l2) (b2 := [x]) (by simpa using h1) (by simp)
    rw [List.nil_append, mrg_nil_r] at this
    unfold insR
    rw [this]
    congr 1
    cases l2 with
    | nil => rw [mrg_nil_l]
    | cons y l => rw [mrg_r (h2 y (by simp)), mrg_nil_r]
/-- One element before a sorted list. -/
theorem mrg_one (x : α) (l1 l2 : List α) (h1 : ∀ b ∈ l1, lt b x = true) (h2 : ∀ b ∈ l2, lt b x = false) : mrg lt [x] (l1 ++ l2) = l1 ++ x :: l2 := by
  have := mrg_app (lt := lt) [] l1 (a2 := [x]) (b2 := l2) (by simp) (by simpa using h1)
  rw [List.nil_append, mrg_nil_l] at this
  rw [this]
  congr 1
  cases l2 with
  | nil => rw [mrg_nil_r]
  | cons y l => rw [mrg_l (h2 y (by simp)), mrg_nil_l]
/-- In a sorted list what holds of one element holds of those on its side. -/
theorem srt_get (O : Ordr lt) {l : List α} (h : Srt lt l) {i j : Nat} {x y : α} (hi : l[i]? = some x) (hj : l[j]? = some y) (hij : i ≤ j) (r : ∀ z, lt z z = false := fun z => by cases e : lt z z with | false => rfl | true => (have := O.asym _ _ e; rw [e] at this; exact this)) : lt y x = false := by
  obtain ⟨h1, rfl⟩ := List.getElem?_eq_some_iff.1 hi
  obtain ⟨h2, rfl⟩ := List.getElem?_eq_some_iff.1 hj
  rcases Nat.lt_or_ge i j with h3 | h3
  · exact List.pairwise_iff_getElem.1 h i j h1 h2 h3
  · obtain rfl : i = j := by omega
    exact r _
/-- x is less than y, y not greater than z: less than z. -/
theorem Ordr.lt_le (O : Ordr lt) {x y z : α} (h : lt x y = true) (h2 : lt z y = false) : lt x z = true := by
  cases e : lt x z with
  | true => rfl
  | false => have := O.ntr _ _ _ e h2; rw [h] at this; cases this
theorem Ordr.le_lt (O : Ordr lt) {x y z : α} (h : lt y x = false) (h2 : lt y z = true) : lt x z = true := by
  cases e : lt x z with
  | true => rfl
  | false => have := O.ntr _ _ _ h e; rw [h2] at this; cases this
theorem mem_take_get {l : List α} {i : Nat} {x : α} (h : x ∈ l.take i) : ∃ k, k < i ∧ l[k]? = some x := by
  obtain ⟨k, hk⟩ := List.mem_iff_getElem?.1 h
  rw [List.getElem?_take] at hk
  split at hk
  · exact ⟨k, by assumption, hk⟩
  · cases hk
theorem mem_drop_get {l : List α} {i : Nat} {x : α} (h : x ∈ l.drop i) : ∃ k, i ≤ k ∧ l[k]? = some x := by
  obtain ⟨k, hk⟩ := List.mem_iff_getElem?.1 h
  rw [List.getElem?_drop] at hk
  exact ⟨i + k, by omega, hk⟩
theorem get_some {l : List α} {k : Nat} (h : k < l.length) : ∃ x, l[k]? = some x := ⟨_, List.getElem?_eq_getElem h⟩
theorem get_lt {l : List α} {k : Nat} {x : α} (h : l[k]? = some x) : k < l.length := (List.getElem?_eq_some_iff.1 h).1
/-- Where two sorted lists can be parted to be merged part by part. -/
theorem mrg_part (O : Ordr lt) {A B : List α} (hA : Srt lt A) (hB : Srt lt B) {i j : Nat} (hi : i ≤ A.length) (hj : j ≤ B.length) (h1 : ∀ x y, 0 < i → A[i - 1]? = some x → B[j]? = some y → lt y x = false)
    (h2 : ∀ x y, 0 < j → A[i]? = some x → B[j - 1]? = some y → lt y x = true) : mrg lt A B = mrg lt (A.take i) (B.take j) ++ mrg lt (A.drop i) (B.drop j) := by
  rw [← mrg_app, List.take_append_drop, List.take_append_drop]
  · intro a ha b hb
    obtain ⟨k, hk, ha⟩ := mem_take_get ha
    obtain ⟨k', hk', hb⟩ := mem_drop_get hb
    obtain ⟨x, hx⟩ := get_some (l := A) (k := i - 1) (by omega)
    obtain ⟨y, hy⟩ := get_some (l := B) (k := j) (by have := get_lt hb; omega)
    exact O.ntr _ _ _ (srt_get O hB hy hb hk') (O.ntr _ _ _ (h1 x y (by omega) hx hy) (srt_get O hA ha hx (by omega)))
  · intro b hb a ha
    obtain ⟨k, hk, hb⟩ := mem_take_get hb
    obtain ⟨k', hk', ha⟩ := mem_drop_get ha
    obtain ⟨x, hx⟩ := get_some (l := A) (k := i) (by have := get_lt ha; omega)
    obtain ⟨y, hy⟩ := get_some (l := B) (k := j - 1) (by omega)
    exact O.le_lt (srt_get O hB hb hy (by omega)) (O.lt_le (h2 x y (by omega) hx hy) (srt_get O hA hx ha hk'))
theorem srt_take {A : List α} (h : Srt lt A) (i : Nat) : Srt lt (A.take i) := List.Pairwise.sublist (List.take_sublist i A) h
theorem srt_drop {A : List α} (h : Srt lt A) (i : Nat) : Srt lt (A.drop i) := List.Pairwise.sublist (List.drop_sublist i A) h
/-- The place of one element among sorted ones. -/
theorem mrg_one_at (O : Ordr lt) {x : α} {B : List α} (hB : Srt lt B) {i : Nat} (hi : i ≤ B.length) (h1 : ∀ y, 0 < i → B[i - 1]? = some y → lt y x = true) (h2 : ∀ y, B[i]? = some y → lt y x = false) : mrg lt [x] B = B.take i ++ x :: B.drop i := by
  have := mrg_one (lt := lt) x (B.take i) (B.drop i) (fun b hb => ?_) (fun b hb => ?_)
  · rwa [List.take_append_drop] at this
  · obtain ⟨k, hk, hb⟩ := mem_take_get hb
    obtain ⟨y, hy⟩ := get_some (l := B) (k := i - 1) (by omega)
    exact O.le_lt (srt_get O hB hb hy (by omega)) (h1 y (by omega) hy)
  · obtain ⟨k, hk, hb⟩ := mem_drop_get hb
    obtain ⟨y, hy⟩ := get_some (l := B) (k := i) (by have := get_lt hb; omega)
    exact O.ntr _ _ _ (srt_get O hB hy hb hk) (h2 y hy)
theorem insR_one_at (O : Ordr lt) {x : α} {A : List α} (hA : Srt lt A) {i : Nat} (hi : i ≤ A.length) (h1 : ∀ y, 0 < i → A[i - 1]? = some y → lt x y = false) (h2 : ∀ y, A[i]? = some y → lt x y = true) : mrg lt A [x] = A.take i ++ x :: A.drop i := by
  have := insR_at (lt := lt) x (A.take i) (A.drop i) (fun b hb => ?_) (fun b hb => ?_)
  · rwa [List.take_append_drop] at this
  · obtain ⟨k, hk, hb⟩ := mem_take_get hb
    obtain ⟨y, hy⟩ := get_some (l := A) (k := i - 1) (by omega)
    exact O.ntr _ _ _ (h1 y (by omega) hy) (srt_get O hA hb hy (by omega))
  · obtain ⟨k, hk, hb⟩ := mem_drop_get hb
    obtain ⟨y, hy⟩ := get_some (l := A) (k := i) (by have := get_lt hb; omega)
    exact O.lt_le (h2 y hy) (srt_get O hA hy hb hk)
end
end Go.Proofs.YtgbfedgghjcdcaaGreatDoor
