/- A slice of spans read as a list; what the call itself makes of them. No condition. -/
import Derived.Test.YtfdchnepaaampaaDoorBase
import Derived.Test.YtfdchnepaaampaaDoorSpec2
import Derived.BigRegion
import Derived.Deep.RegionLaw
namespace Go.Proofs.YtfdchnepaaampaaDoor
set_option linter.unusedSimpArgs false
set_option linter.unusedVariables false
set_option linter.unusedSectionVars false
open Go.RowKit

def spCells (s : Sp) : List Value := [.int .i64 s.r, .int .i64 s.f, .int .i64 s.t]
def flat (l : List Sp) : List Value := l.flatMap spCells
theorem flat_len (l : List Sp) : (flat l).length = l.length * 3 := by
  induction l with
  | nil => rfl
  | cons s t ih => simp only [flat, List.flatMap_cons, List.length_append] at ih ⊢; rw [ih]; simp [spCells]; omega
theorem flat_snoc (l : List Sp) (s : Sp) : flat (l ++ [s]) = flat l ++ spCells s := by simp [flat]
theorem flat_at : ∀ {l : List Sp} {k : Nat} {s : Sp}, l[k]? = some s → (flat l)[k * 3]? = some (.int .i64 s.r) ∧ (flat l)[k * 3 + 1]? = some (.int .i64 s.f) ∧ (flat l)[k * 3 + 2]? = some (.int .i64 s.t)
  | [], k, s, h => by simp at h
  | x :: l, 0, s, h => by cases h; exact ⟨rfl, rfl, rfl⟩
  | x :: l, k + 1, s, h => by
    have ih := flat_at (l := l) (k := k) (s := s) (by simpa using h)
    have e : ∀ i, (flat (x :: l))[(k + 1) * 3 + i]? = (flat l)[k * 3 + i]? := fun i => by
      show (spCells x ++ flat l)[(k + 1) * 3 + i]? = _
      rw [List.getElem?_append_right (by simp [spCells]; omega)]
      congr 1
      simp [spCells]; omega
    exact ⟨by rw [← Nat.add_zero ((k + 1) * 3), e]; exact ih.1, by rw [e]; exact ih.2.1, by rw [e]; exact ih.2.2⟩
theorem flat_one (l : List Sp) : ∀ u ∈ flat l, u.oneCell' = true := by
  intro u hu
  simp only [flat, List.mem_flatMap] at hu
  obtain ⟨s, _, h⟩ := hu
  simp [spCells] at h
  rcases h with rfl | rfl | rfl <;> rfl
theorem step_append_any {P : Program} (w : World) {ops : Array Oper} {o : Oper} {a : Act} {K : Act → World → Prop} {Q : Exit → Act → World → Prop} {E : Prop} (hgd : o.guard = none) (s x : Operand) (t : TypeId)
    (ho : o.op = .call { callee := .builtin .append, args := #[s, x], argTypes := #[t, t] })
    (base : Nat) (e : TypeId) (i : TypeInfo) (z : Value) (size bytes : Nat) (ht : P.underlying t = some (.slice e)) (hi : P.info? e = some i) (hz : i.zero = some z)
    (hsize : i.size = size) (hby : i.bytes = bytes) (hzs : z.cells.size = size) (hsz : 0 < size)
    (v : Value) (n : Nat) (xs : List Value) (hs : a.eval s = v) (hown : w.ownsRow base e size v n xs)
    (A : Option Addr) (m c : Nat) (news : List Value) (hx : a.eval x = .slice A m c) (hm : news.length = m * size) (hr : RC w A news) (h1 : ∀ u ∈ news, u.oneCell' = true)
    (h63 : n + m ≤ maxLen) (hbytes : (n + m) * bytes ≤ 140737488355328) (hbase : base ≤ w.heap.size)
    (h : ∀ v' w', w'.ownsRow base e size v' (n + m) (xs ++ news) → w.grownBy w' v.ownBlock → (v'.ownBlock = v.ownBlock ∨ v'.ownBlock = some w.heap.size) ∧ (v' = .slice none 0 0 ↔ v = .slice none 0 0 ∧ m = 0) → K (a.put o.dst v') w') :
    if Region.wanted o (yielded ops a.tmps) = true then Oper.wp P o a w K Q else E := by
  have hw : Region.wanted o (yielded ops a.tmps) = true := by simp [Region.wanted, hgd]
  rw [if_pos hw]
  exact wp_append_any w s x t ho base e i z size bytes ht hi hz hsize hby hzs hsz v n xs hs hown A m c news hx hm hr h1 h63 hbytes hbase h
/-- A slice of n spans. -/
def RS (w : World) (A : Option Addr) (n : Nat) (l : List Sp) : Prop := l.length = n ∧ n ≤ 140737488351232 ∧ RC w A (flat l)
section
variable {w w' : World} {A : Option Addr} {n : Nat} {l : List Sp}
theorem RS.below (h : RS w A n l) (hb : Below w.heap.size w w') : RS w' A n l := ⟨h.1, h.2.1, h.2.2.below hb⟩
theorem RS.drewN (h : RS w A n l) (m : Nat) : RS (w.drewN m) A n l := h
theorem RS.alloc (h : RS w A n l) (o : Obj) : RS (w.alloc o) A n l := ⟨h.1, h.2.1, h.2.2.alloc o⟩
theorem RS.len (h : RS w A n l) : l.length = n := h.1
theorem RS.le (h : RS w A n l) : n ≤ 140737488351232 := h.2.1
theorem RS.nil (w : World) : RS w none 0 [] := ⟨rfl, by simp, RC.nil _ _⟩
theorem RS.at_ {k : Nat} (h : RS w A n l) (hk : k < n) : ∃ b o s, A = some ⟨b, o, none⟩ ∧ b < w.heap.size ∧ l[k]? = some s ∧
    w.cell? ⟨b, o + k * 3, none⟩ = some (.int .i64 s.r) ∧ w.cell? ⟨b, o + k * 3 + 1, none⟩ = some (.int .i64 s.f) ∧ w.cell? ⟨b, o + k * 3 + 2, none⟩ = some (.int .i64 s.t) := by
  obtain ⟨s, hs⟩ := get_of_lt (xs := l) (k := k) (by rw [h.1]; exact hk)
  have hf := flat_at hs
  obtain ⟨b, o, e, hlt, hc⟩ := h.2.2 (by rw [flat_len, h.1]; omega)
  exact ⟨b, o, s, e, hlt, hs, hc _ _ hf.1, hc _ _ hf.2.1, hc _ _ hf.2.2⟩
end
/-- The call returns a slice that reads as these spans; old memory is as it was. -/
def RetS (l : List Sp) (w : World) (e : Ending) (w' : World) : Prop := ∃ A n c, e = .returned (.slice A n c) ∧ RS w' A n l ∧ Below w.heap.size w w'
theorem RetS.mk {l : List Sp} {w : World} {w' : World} {A : Option Addr} {n c : Nat} (h : RS w' A n l) (hb : Below w.heap.size w w') : RetS l w (.returned (.slice A n c)) w' := ⟨A, n, c, rfl, h, hb⟩
theorem RetS.of_own {l : List Sp} {w w' : World} {base n : Nat} {v : Value} (h : w'.ownsRow base 43 3 v n (flat l)) (hn : l.length = n) (hl : n ≤ 140737488351232) (hb : Below w.heap.size w w') : RetS l w (.returned v) w' := by
  rcases h.2 with ⟨rfl, rfl⟩ | ⟨g, cap, cur, rfl, _⟩
  · rw [List.eq_nil_of_length_eq_zero hn]; exact RetS.mk (RS.nil _) hb
  · exact RetS.mk ⟨hn, hl, RC.of_own h⟩ hb
theorem span_info : (Tryd.prog.info? 43).map (fun i => (i.zero, i.size, i.bytes)) = some (some (.agg #[.int .i64 0, .int .i64 0, .int .i64 0]), 3, 24) := by kernel_rfl
end Go.Proofs.YtfdchnepaaampaaDoor
