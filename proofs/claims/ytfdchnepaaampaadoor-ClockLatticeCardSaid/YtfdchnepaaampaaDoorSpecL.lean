/- Plain laws of clocks: the lattice. No condition. -/
import Derived.Test.YtfdchnepaaampaaDoorSpecC
namespace Go.Proofs.YtfdchnepaaampaaDoor
set_option linter.unusedSimpArgs false
set_option linter.unusedVariables false
set_option linter.unusedSectionVars false
section
variable {f g : Int → Int → Int}
theorem zw_comm (hf : ∀ x y, f x y = f y x) : ∀ a b : List Int, List.zipWith f a b = List.zipWith f b a
  | [], b => by simp
  | x :: a, [] => by simp
  | x :: a, y :: b => by simp only [List.zipWith_cons_cons]; rw [hf, zw_comm hf a b]
theorem zw_assoc (hf : ∀ x y z, f (f x y) z = f x (f y z)) : ∀ a b c : List Int, List.zipWith f (List.zipWith f a b) c = List.zipWith f a (List.zipWith f b c)
  | [], b, c => by simp
  | x :: a, [], c => by simp
  | x :: a, y :: b, [] => by simp
  | x :: a, y :: b, z :: c => by simp only [List.zipWith_cons_cons]; rw [hf, zw_assoc hf a b c]
theorem zw_absorb (hf : ∀ x y, f x (g x y) = x) : ∀ a b : List Int, a.length = b.length → List.zipWith f a (List.zipWith g a b) = a
  | [], b, _ => by simp
  | x :: a, [], h => by simp at h
  | x :: a, y :: b, h => by simp only [List.zipWith_cons_cons]; rw [hf, zw_absorb hf a b (by simpa using h)]
end
theorem max_inside : ∀ a b : List Int, a.length = b.length → (List.zipWith max a b = b ↔ insideB a b = true)
  | [], [], _ => by simp [insideB]
  | [], y :: b, h => by simp at h
  | x :: a, [], h => by simp at h
  | x :: a, y :: b, h => by
    have ih := max_inside a b (by simpa using h)
    simp only [List.zipWith_cons_cons, List.cons.injEq, ih, insideB, List.zip_cons_cons, List.all_cons, Bool.and_eq_true]
    simp only [le2, decide_eq_true_eq]
    constructor
    · rintro ⟨h1, h2⟩; exact ⟨by omega, h2⟩
    · rintro ⟨h1, h2⟩; exact ⟨by omega, h2⟩
theorem foldl_add : ∀ (t : List Int) (p q : Int), t.foldl (· + ·) (p + q) = t.foldl (· + ·) p + q
  | [], p, q => rfl
  | y :: t, p, q => by simp only [List.foldl_cons]; rw [show p + q + y = p + y + q by omega]; exact foldl_add t _ _
theorem sum_lat : ∀ a b : List Int, a.length = b.length → sumL (List.zipWith max a b) + sumL (List.zipWith min a b) = sumL a + sumL b
  | [], [], _ => rfl
  | [], y :: b, h => by simp at h
  | x :: a, [], h => by simp at h
  | x :: a, y :: b, h => by
    have ih := sum_lat a b (by simpa using h)
    simp only [sumL, List.zipWith_cons_cons, List.foldl_cons] at ih ⊢
    rw [foldl_add, foldl_add, foldl_add, foldl_add]
    omega
theorem ok_zw {f : Int → Int → Int} (hf : ∀ x y, ok1 x = true → ok1 y = true → ok1 (f x y) = true) : ∀ a b : List Int, a.all ok1 = true → b.all ok1 = true → (List.zipWith f a b).all ok1 = true
  | [], b, _, _ => by simp
  | x :: a, [], _, _ => by simp
  | x :: a, y :: b, h1, h2 => by
    simp only [List.all_cons, Bool.and_eq_true, List.zipWith_cons_cons] at h1 h2 ⊢
    exact ⟨hf x y h1.1 h2.1, ok_zw hf a b h1.2 h2.2⟩
theorem ok_max (x y : Int) (h1 : ok1 x = true) (h2 : ok1 y = true) : ok1 (max x y) = true := by simp [ok1] at *; omega
theorem ok_min (x y : Int) (h1 : ok1 x = true) (h2 : ok1 y = true) : ok1 (min x y) = true := by simp [ok1] at *; omega
theorem valid_zw {f : Int → Int → Int} (hf : ∀ x y, ok1 x = true → ok1 y = true → ok1 (f x y) = true) {a b : List Int} (h1 : validB a = true) (h2 : validB b = true) (hl : a.length = b.length) : validB (List.zipWith f a b) = true := by
  simp only [validB, Bool.and_eq_true, decide_eq_true_eq] at h1 h2 ⊢
  refine ⟨⟨ok_zw hf a b h1.1.1 h2.1.1, ?_⟩, ?_⟩ <;> rw [List.length_zipWith] <;> omega
theorem fold_two {f : Int → Int → Int} {a b : List Int} (h1 : validB a = true) (h2 : validB b = true) (hl : a.length = b.length) : foldS f [a, b] = List.zipWith f a b := by
  rw [foldS, if_pos (alike_of h1 h2 hl.symm)]; rfl
theorem fold_three {f : Int → Int → Int} {a b c : List Int} (h1 : validB a = true) (h2 : validB b = true) (h3 : validB c = true) (hl : a.length = b.length) (hl' : b.length = c.length) : foldS f [a, b, c] = List.zipWith f (List.zipWith f a b) c := by
  have : alikeB [a, b, c] = true := by simp [alikeB, al1, h1, h2, h3, hl, hl']
  rw [foldS, if_pos this]; rfl
/-- All that ClockLattice asks, of three clocks of one length. -/
structure Lat (a b c : List Int) : Prop where
  join : foldS max [b, a] = foldS max [a, b]
  meet : foldS min [b, a] = foldS min [a, b]
  join3 : foldS max [foldS max [a, b], c] = foldS max [a, b, c]
  join3' : foldS max [a, foldS max [b, c]] = foldS max [a, b, c]
  meet3 : foldS min [foldS min [a, b], c] = foldS min [a, foldS min [b, c]]
  abs1 : foldS max [a, foldS min [a, b]] = a
  abs2 : foldS min [a, foldS max [a, b]] = a
  ins : (foldS max [a, b] == b) = insideB a b
  cmp : compareS a b = (if insideB a b then (if insideB b a then 0 else 1) else (if insideB b a then 2 else 3), 0)
  cmp' : compareS b a = (if insideB b a then (if insideB a b then 0 else 1) else (if insideB a b then 2 else 3), 0)
  sum : countS (foldS max [a, b]) + countS (foldS min [a, b]) = countS a + countS b
  lenj : (foldS max [a, b]).length = a.length
  lenm : (foldS min [a, b]).length = a.length
  vj : validB (foldS max [a, b]) = true
  vm : validB (foldS min [a, b]) = true
theorem lattice {a b c : List Int} (h1 : validB a = true) (h2 : validB b = true) (h3 : validB c = true) (hl : a.length = b.length) (hl' : b.length = c.length) : Lat a b c := by
  have vj := valid_zw ok_max h1 h2 hl
  have vm := valid_zw ok_min h1 h2 hl
  have vj' := valid_zw ok_max h2 h3 hl'
  have vm' := valid_zw ok_min h2 h3 hl'
  have l1 : (List.zipWith max a b).length = c.length := by rw [List.length_zipWith]; omega
  have l2 : (List.zipWith min a b).length = c.length := by rw [List.length_zipWith]; omega
  have l3 : a.length = (List.zipWith max b c).length := by rw [List.length_zipWith]; omega
  have l4 : a.length = (List.zipWith min b c).length := by rw [List.length_zipWith]; omega
  have l5 : a.length = (List.zipWith min a b).length := by rw [List.length_zipWith]; omega
  have l6 : a.length = (List.zipWith max a b).length := by rw [List.length_zipWith]; omega
  refine ⟨?_, ?_, ?_, ?_, ?_, ?_, ?_, ?_, ?_, ?_, ?_, ?_, ?_, ?_, ?_⟩
  · rw [fold_two h2 h1 hl.symm, fold_two h1 h2 hl]; exact zw_comm (by intro x y; omega) _ _
  · rw [fold_two h2 h1 hl.symm, fold_two h1 h2 hl]; exact zw_comm (by intro x y; omega) _ _
  · rw [fold_two h1 h2 hl, fold_two vj h3 l1, fold_three h1 h2 h3 hl hl']
  · rw [fold_two h2 h3 hl', fold_two h1 vj' l3, fold_three h1 h2 h3 hl hl']; exact (zw_assoc (by intro x y z; omega) _ _ _).symm
  · rw [fold_two h1 h2 hl, fold_two vm h3 l2, fold_two h2 h3 hl', fold_two h1 vm' l4]; exact zw_assoc (by intro x y z; omega) _ _ _
  · rw [fold_two h1 h2 hl, fold_two h1 vm l5]; exact zw_absorb (by intro x y; omega) _ _ hl
  · rw [fold_two h1 h2 hl, fold_two h1 vj l6]; exact zw_absorb (by intro x y; omega) _ _ hl
  · rw [fold_two h1 h2 hl, Bool.eq_iff_iff, beq_iff_eq]; exact max_inside a b hl
  · rw [compareS, if_pos (alike_of h1 h2 hl.symm)]; cases insideB a b <;> cases insideB b a <;> rfl
  · rw [compareS, if_pos (alike_of h2 h1 hl)]; cases insideB a b <;> cases insideB b a <;> rfl
  · rw [fold_two h1 h2 hl, fold_two h1 h2 hl, countS, countS, countS, countS, if_pos vj, if_pos vm, if_pos h1, if_pos h2]; exact sum_lat a b hl
  · rw [fold_two h1 h2 hl]; exact l6.symm
  · rw [fold_two h1 h2 hl]; exact l5.symm
  · rw [fold_two h1 h2 hl]; exact vj
  · rw [fold_two h1 h2 hl]; exact vm
theorem count_bd (xs : List Int) : 0 ≤ countS xs ∧ countS xs ≤ 5120 := by
  rw [countS]
  by_cases hv : validB xs = true
  · rw [if_pos hv]
    have hl := hv
    simp only [validB, Bool.and_eq_true, decide_eq_true_eq, List.all_eq_true] at hl
    have : ∀ (t : List Int), (∀ x ∈ t, ok1 x = true) → 0 ≤ sumL t ∧ sumL t ≤ 1024 * t.length := by
      intro t
      induction t with
      | nil => intro _; exact ⟨by decide, by decide⟩
      | cons y t ih =>
        intro h
        have h1 := ih (fun x hx => h x (by simp [hx]))
        have h2 := ok1_of (h y (by simp))
        simp only [sumL, List.foldl_cons, List.length_cons] at h1 ⊢
        rw [foldl_add]
        omega
    have := this xs hl.1.1
    omega
  · rw [if_neg hv]; omega
end Go.Proofs.YtfdchnepaaampaaDoor
