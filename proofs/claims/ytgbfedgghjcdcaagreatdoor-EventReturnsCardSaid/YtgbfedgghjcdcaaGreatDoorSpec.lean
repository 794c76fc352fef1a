/- The plain functions that the clocks' texts compute, with no program in sight. No condition. -/
namespace Go.Proofs.YtgbfedgghjcdcaaGreatDoor
set_option linter.unusedSimpArgs false
set_option linter.unusedVariables false
set_option linter.unusedSectionVars false
def ok1 (n : Int) : Bool := decide (0 ≤ n) && decide (n ≤ 1024)
def validB (xs : List Int) : Bool := xs.all ok1 && decide (1 ≤ xs.length) && decide (xs.length ≤ 5)
def zeroL (r : Int) : List Int := if 1 ≤ r ∧ r ≤ 5 then List.replicate r.toNat 0 else []
def le2 (p : Int × Int) : Bool := decide (p.1 ≤ p.2)
def insideB (a b : List Int) : Bool := (a.zip b).all le2
def al1 (n : Nat) (c : List Int) : Bool := validB c && decide (c.length = n)
def alikeB (l : List (List Int)) : Bool := l.all (al1 (l.headD []).length) && decide (0 < l.length)
def compareS (a b : List Int) : Int × Int := if alikeB [a, b] then (if insideB a b then (if insideB b a then (0, 0) else (1, 0)) else (if insideB b a then (2, 0) else (3, 0))) else (0, 1)
def rcompareS (a b : List Int) : Int × Int := if alikeB [a, b] then (if a == b then (0, 0) else (if insideB a b then (1, 0) else (if insideB b a then (2, 0) else (3, 0)))) else (0, 1)
theorem alike_len {a b : List Int} (h : alikeB [a, b] = true) : a.length = b.length := by
  simp [alikeB, al1] at h; omega
theorem headD_of {α : Type} {l : List α} {x d : α} (h : l[0]? = some x) : l.headD d = x := by
  cases l with
  | nil => simp at h
  | cons y t => simpa using h
def foldS (f : Int → Int → Int) (l : List (List Int)) : List Int := if alikeB l then l.tail.foldl (List.zipWith f) (l.headD []) else []
theorem zip_get {α β : Type} {a : List α} {b : List β} {k : Nat} {x : α} {y : β} (hx : a[k]? = some x) (hy : b[k]? = some y) : (a.zip b)[k]? = some (x, y) := by
  rw [List.getElem?_zip_eq_some]; exact ⟨hx, hy⟩
theorem len_of_zip_take {α β : Type} (a : List α) (b : List β) {k : Nat} (h : min a.length b.length ≤ k) : (a.zip b).take k = a.zip b :=
  List.take_of_length_le (by rw [List.length_zip]; exact h)
theorem foldl_len (f : Int → Int → Int) (n : Nat) : ∀ (t : List (List Int)) (a : List Int), a.length = n → (∀ c ∈ t, c.length = n) → (t.foldl (List.zipWith f) a).length = n
  | [], a, h, _ => h
  | c :: t, a, h, ht => foldl_len f n t _ (by rw [List.length_zipWith, h, ht c (by simp)]; simp) (fun d hd => ht d (by simp [hd]))
/-- One step of a row that is worked off element by element. -/
theorem zw_step {f : Int → Int → Int} {a c : List Int} {j : Nat} {x y : Int} (hl : a.length = c.length) (hx : a[j]? = some x) (hy : c[j]? = some y) :
    ((List.zipWith f a c).take j ++ a.drop j).set j (f x y) = (List.zipWith f a c).take (j + 1) ++ a.drop (j + 1) := by
  have hj : j < a.length := (List.getElem?_eq_some_iff.1 hx).1
  have h1 : ((List.zipWith f a c).take j).length = j := by rw [List.length_take, List.length_zipWith]; omega
  have h2 : (List.zipWith f a c)[j]? = some (f x y) := by rw [List.getElem?_zipWith, hx, hy]
  rw [List.set_append_right _ _ (by omega), h1, Nat.sub_self, List.drop_eq_getElem_cons hj, List.set_cons_zero, List.take_add_one, h2]
  simp
theorem zw_at {f : Int → Int → Int} {a c : List Int} {j : Nat} {x : Int} (hl : a.length = c.length) (hx : ((List.zipWith f a c).take j ++ a.drop j)[j]? = some x) : a[j]? = some x := by
  by_cases hj : j < a.length
  · rw [List.getElem?_append_right (by rw [List.length_take, List.length_zipWith]; omega)] at hx
    rw [List.length_take, List.length_zipWith, show min j (min a.length c.length) = j by omega, Nat.sub_self, List.getElem?_drop] at hx
    simpa using hx
  · have : ((List.zipWith f a c).take j ++ a.drop j).length ≤ j := by simp; omega
    rw [List.getElem?_eq_none this] at hx; cases hx
theorem zw_done {f : Int → Int → Int} {a c : List Int} {j : Nat} (hl : a.length = c.length) (hj : a.length ≤ j) : (List.zipWith f a c).take j ++ a.drop j = List.zipWith f a c := by
  rw [List.take_of_length_le (by rw [List.length_zipWith]; omega), List.drop_eq_nil_of_le hj, List.append_nil]
theorem set_same {a : List Int} {j : Nat} {x : Int} (h : a[j]? = some x) : a.set j x = a := by
  apply List.ext_getElem?
  intro i
  rw [List.getElem?_set]
  by_cases hij : j = i
  · subst hij
    rw [if_pos rfl, if_pos (List.getElem?_eq_some_iff.1 h).1, h]
  · rw [if_neg hij]
theorem foldl_snoc {α β : Type} (g : β → α → β) (b : β) {l : List α} {k : Nat} {x : α} (h : l[k]? = some x) : (l.take (k + 1)).foldl g b = g ((l.take k).foldl g b) x := by
  rw [List.take_add_one, h]; simp [List.foldl_append]
theorem alike_at {l : List (List Int)} (h : alikeB l = true) {k : Nat} {x : List Int} (hx : l[k]? = some x) : x.length = (l.headD []).length := by
  simp only [alikeB, Bool.and_eq_true, List.all_eq_true] at h
  have := h.1 x (List.mem_of_getElem? hx)
  simp [al1] at this; simpa using this.2
theorem zw_self (f : Int → Int → Int) (hf : ∀ x, f x x = x) : ∀ a : List Int, List.zipWith f a a = a
  | [] => rfl
  | x :: a => by rw [List.zipWith_cons_cons, hf, zw_self f hf a]
theorem fold_all (f : Int → Int → Int) (hf : ∀ x, f x x = x) (l : List (List Int)) : l.foldl (List.zipWith f) (l.headD []) = l.tail.foldl (List.zipWith f) (l.headD []) := by
  cases l with
  | nil => rfl
  | cons x t => show t.foldl (List.zipWith f) (List.zipWith f x x) = t.foldl (List.zipWith f) x; rw [zw_self f hf]
end Go.Proofs.YtgbfedgghjcdcaaGreatDoor
