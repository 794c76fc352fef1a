/- The plain functions that the clocks' texts compute, with no program in sight. No condition. -/
namespace Go.Proofs.YtgbfedgghjcdcaaGreatDoor
set_option linter.unusedSimpArgs false
set_option linter.unusedVariables false
set_option linter.unusedSectionVars false
def ok1 (n : Int) : Bool := decide (0 ≤ n) && decide (n ≤ 1024)
def validB (xs : List Int) : Bool := xs.all ok1 && decide (1 ≤ xs.length) && decide (xs.length ≤ 5)
def le2 (p : Int × Int) : Bool := decide (p.1 ≤ p.2)
def insideB (a b : List Int) : Bool := (a.zip b).all le2
def al1 (n : Nat) (c : List Int) : Bool := validB c && decide (c.length = n)
def alikeB (l : List (List Int)) : Bool := l.all (al1 (l.headD []).length) && decide (0 < l.length)
def compareS (a b : List Int) : Int × Int := if alikeB [a, b] then (if insideB a b then (if insideB b a then (0, 0) else (1, 0)) else (if insideB b a then (2, 0) else (3, 0))) else (0, 1)
theorem alike_len {a b : List Int} (h : alikeB [a, b] = true) : a.length = b.length := by
  simp [alikeB, al1] at h; omega
theorem headD_of {α : Type} {l : List α} {x d : α} (h : l[0]? = some x) : l.headD d = x := by
  cases l with
  | nil => simp at h
  | cons y t => simpa using h
theorem zip_get {α β : Type} {a : List α} {b : List β} {k : Nat} {x : α} {y : β} (hx : a[k]? = some x) (hy : b[k]? = some y) : (a.zip b)[k]? = some (x, y) := by
  rw [List.getElem?_zip_eq_some]; exact ⟨hx, hy⟩
/-- One step of a row that is worked off element by element. -/
theorem zw_step {f : Int → Int → Int} {a c : List Int} {j : Nat} {x y : Int} (hl : a.length = c.length) (hx : a[j]? = some x) (hy : c[j]? = some y) :
    ((List.zipWith f a c).take j ++ a.drop j).set j (f x y) = (List.zipWith f a c).take (j + 1) ++ a.drop (j + 1) := by
  have hj : j < a.length := (List.getElem?_eq_some_iff.1 hx).1
  have h1 : ((List.zipWith f a c).take j).length = j := by rw [List.length_take, List.length_zipWith]; omega
  have h2 : (List.zipWith f a c)[j]? = some (f x y) := by rw [List.getElem?_zipWith, hx, hy]
  rw [List.set_append_right _ _ (by omega), h1, Nat.sub_self, List.drop_eq_getElem_cons hj, List.set_cons_zero, List.take_add_one, h2]
  simp
theorem zw_done {f : Int → Int → Int} {a c : List Int} {j : Nat} (hl : a.length = c.length) (hj : a.length ≤ j) : (List.zipWith f a c).take j ++ a.drop j = List.zipWith f a c := by
  rw [List.take_of_length_le (by rw [List.length_zipWith]; omega), List.drop_eq_nil_of_le hj, List.append_nil]
theorem foldl_snoc {α β : Type} (g : β → α → β) (b : β) {l : List α} {k : Nat} {x : α} (h : l[k]? = some x) : (l.take (k + 1)).foldl g b = g ((l.take k).foldl g b) x := by
  rw [List.take_add_one, h]; simp [List.foldl_append]
end Go.Proofs.YtgbfedgghjcdcaaGreatDoor
