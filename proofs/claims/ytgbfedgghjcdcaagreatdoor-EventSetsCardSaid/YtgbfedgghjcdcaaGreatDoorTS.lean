/- The plain functions that the clocks' texts compute, with no program in sight. No condition. -/
import Derived.Test.YtgbfedgghjcdcaaGreatDoorBase5
import Derived.Lib.ItoaNum
import Derived.Lib.Join
import Derived.Lib.AtoiTie
import Derived.Lib.SplitLaws
import Derived.Lib.Split
import Derived.Lib.Strings
import Derived.Lib.IndexLaws
namespace Go.Proofs.YtgbfedgghjcdcaaGreatDoor
set_option linter.unusedSimpArgs false
set_option linter.unusedVariables false
set_option linter.unusedSectionVars false
def ok1 (n : Int) : Bool := decide (0 ≤ n) && decide (n ≤ 1024)
def validB (xs : List Int) : Bool := xs.all ok1 && decide (1 ≤ xs.length) && decide (xs.length ≤ 5)
def le2 (p : Int × Int) : Bool := decide (p.1 ≤ p.2)
def insideB (a b : List Int) : Bool := (a.zip b).all le2
def al1 (n : Nat) (c : List Int) : Bool := validB c && decide (c.length = n)
def alikeB (l : List (List Int)) : Bool := l.all (al1 (l.headD []).length) && decide (0 < l.length)
def compareS (a b : List Int) : Int × Int := if alikeB [a, b] then (if insideB a b then (if insideB b a then (0, 0) else (1, 0)) else (if insideB b a then (2, 0) else (3, 0))) else (0, 1)
theorem alike_len {a b : List Int} (h : alikeB [a, b] = true) : a.length = b.length := by
  simp [alikeB, al1] at h; omega
theorem headD_of {α : Type} {l : List α} {x d : α} (h : l[0]? = some x) : l.headD d = x := by
  cases l with
  | nil => simp at h
  | cons y t => simpa using h
theorem zip_get {α β : Type} {a : List α} {b : List β} {k : Nat} {x : α} {y : β} (hx : a[k]? = some x) (hy : b[k]? = some y) : (a.zip b)[k]? = some (x, y) := by
  rw [List.getElem?_zip_eq_some]; exact ⟨hx, hy⟩
theorem foldl_snoc {α β : Type} (g : β → α → β) (b : β) {l : List α} {k : Nat} {x : α} (h : l[k]? = some x) : (l.take (k + 1)).foldl g b = g ((l.take k).foldl g b) x := by
  rw [List.take_add_one, h]; simp [List.foldl_append]
end Go.Proofs.YtgbfedgghjcdcaaGreatDoor

namespace Go.Proofs.YtgbfedgghjcdcaaGreatDoor
set_option linter.unusedSimpArgs false
set_option linter.unusedVariables false
set_option linter.unusedSectionVars false
def sumL (xs : List Int) : Int := xs.foldl (· + ·) 0
def countS (xs : List Int) : Int := if validB xs then sumL xs else 0
def hasS (c : List Int) (r n : Int) : Bool := validB c && (decide (0 ≤ r) && (decide (r < c.length) && (decide (1 ≤ n) && decide (n ≤ c.getD r.toNat 0))))
theorem sum_snoc {xs : List Int} {k : Nat} {n : Int} (h : xs[k]? = some n) : sumL (xs.take (k + 1)) = sumL (xs.take k) + n := foldl_snoc _ _ h
theorem ok1_of {n : Int} (h : ok1 n = true) : 0 ≤ n ∧ n ≤ 1024 := by simp [ok1] at h; omega
theorem ok1_at {xs : List Int} (h : validB xs = true) {k : Nat} {n : Int} (hn : xs[k]? = some n) : 0 ≤ n ∧ n ≤ 1024 := by
  simp only [validB, Bool.and_eq_true, List.all_eq_true] at h
  exact ok1_of (h.1.1 n (List.mem_of_getElem? hn))
structure Sp where
  r : Int
  f : Int
  t : Int
deriving DecidableEq
theorem getD_get {xs : List Int} {k : Nat} {n : Int} (h : xs[k]? = some n) : xs.getD k 0 = n := by rw [List.getD_eq_getElem?_getD, h]; rfl
end Go.Proofs.YtgbfedgghjcdcaaGreatDoor

namespace Go.Proofs.YtgbfedgghjcdcaaGreatDoor
set_option linter.unusedSimpArgs false
set_option linter.unusedVariables false
set_option linter.unusedSectionVars false
def betB (n l h : Int) : Bool := decide (l ≤ n) && decide (n ≤ h)
def headOk (e : Ev) : Bool := validB e.past && (betB e.r 0 ((e.past.length : Int) - 1) && (decide (e.n = e.past.getD e.r.toNat 0 + 1) && (decide (e.n ≤ 1024) && betB e.t 1 1073741824)))
def giveZ (e : Ev) : Bool := decide (e.gk = 0) && (decide (e.gi = 0) && (decide (e.ge = 0) && (decide (e.ga = 0) && decide (e.to = 0))))
def actF (e : Ev) : Bool := betB e.a 0 255 && betB e.pl 0 1024 && betB e.se 1 1048576
def noteF (e : Ev) : Bool := betB e.pl 1 1024 && betB e.se 1 1048576
def giveF (e : Ev) : Bool := betB e.gk 0 1 && betB e.ge 0 (if e.gk = 1 then 5 else 0) && betB e.gi 0 1023 && betB e.ga 1 1000000 && betB e.to 0 ((e.past.length : Int) - 1) && decide (e.to ≠ e.r)
def formB (e : Ev) : Bool := headOk e && (if e.k = 0 then actF e && giveZ e else if e.k = 1 then giveF e && (decide (e.a = 0) && (decide (e.pl = 0) && decide (e.se = 0))) else if e.k = 2 then noteF e && (decide (e.a = 0) && giveZ e) else false)
end Go.Proofs.YtgbfedgghjcdcaaGreatDoor

namespace Go.Proofs.YtgbfedgghjcdcaaGreatDoor
set_option linter.unusedSimpArgs false
set_option linter.unusedVariables false
set_option linter.unusedSectionVars false
open Go
end Go.Proofs.YtgbfedgghjcdcaaGreatDoor

namespace Go.Proofs.YtgbfedgghjcdcaaGreatDoor
set_option linter.unusedSimpArgs false
set_option linter.unusedVariables false
set_option linter.unusedSectionVars false
open Go

def dvF (a : Nat) (l : List UInt8) : Nat := l.foldl (fun a b => 10 * a + (b.toNat - 48)) a
def dv (l : List UInt8) : Nat := dvF 0 l
end Go.Proofs.YtgbfedgghjcdcaaGreatDoor

namespace Go.Proofs.YtgbfedgghjcdcaaGreatDoor
set_option linter.unusedSimpArgs false
set_option linter.unusedVariables false
set_option linter.unusedSectionVars false
open Go

def atoiV (w : List UInt8) : Int := match Lib.atoiAll w with
  | .ok v => v
  | .range => Lib.atoiSat w
  | _ => 0
structure Rng (e : Ev) : Prop where
  vp : validB e.past = true
  r0 : 0 ≤ e.r
  r1 : e.r ≤ 9999
  n0 : 0 ≤ e.n
  n1 : e.n ≤ 9999
  t0 : 0 ≤ e.t
  t1 : e.t ≤ 9999999999
  k : e.k = 0 ∨ e.k = 1 ∨ e.k = 2
  k0 : e.k = 0 → (0 ≤ e.a ∧ e.a ≤ 255 ∧ 0 ≤ e.pl ∧ e.pl ≤ 1024 ∧ 0 ≤ e.se ∧ e.se ≤ 1048576) ∧ e.gk = 0 ∧ e.gi = 0 ∧ e.ge = 0 ∧ e.ga = 0 ∧ e.to = 0
  k2 : e.k = 2 → (0 ≤ e.pl ∧ e.pl ≤ 1024 ∧ 0 ≤ e.se ∧ e.se ≤ 1048576) ∧ e.a = 0 ∧ e.gk = 0 ∧ e.gi = 0 ∧ e.ge = 0 ∧ e.ga = 0 ∧ e.to = 0
  k1 : e.k = 1 → ((e.gk = 0 ∨ e.gk = 1) ∧ 0 ≤ e.gi ∧ e.gi ≤ 1023 ∧ 0 ≤ e.ge ∧ e.ge ≤ 5 ∧ 0 ≤ e.ga ∧ e.ga ≤ 1000000 ∧ 0 ≤ e.to ∧ e.to ≤ 9999) ∧ e.a = 0 ∧ e.pl = 0 ∧ e.se = 0
def at0 (l : List Int) (k : Nat) : Int := l.getD k 0
end Go.Proofs.YtgbfedgghjcdcaaGreatDoor

namespace Go.Proofs.YtgbfedgghjcdcaaGreatDoor
set_option linter.unusedSimpArgs false
set_option linter.unusedVariables false
set_option linter.unusedSectionVars false
open Go

def pos (c : UInt8) (s : List UInt8) : Nat := (s.takeWhile fun b => b != c).length
end Go.Proofs.YtgbfedgghjcdcaaGreatDoor

namespace Go.Proofs.YtgbfedgghjcdcaaGreatDoor
set_option linter.unusedSimpArgs false
set_option linter.unusedVariables false
set_option linter.unusedSectionVars false

structure Tok where
  kind : Int
  frm : Nat
  at_ : Nat
  end_ : Nat
section
variable {α : Type} {l : List α} {q : Nat} {x : α}
theorem drop_get (h : l[q]? = some x) : l.drop q = x :: l.drop (q + 1) := by
  obtain ⟨hl, rfl⟩ := List.getElem?_eq_some_iff.1 h
  exact List.drop_eq_getElem_cons hl
theorem drop_end (h : l.length ≤ q) : l.drop q = [] := List.drop_of_length_le h
end
section
variable {l : List UInt8} {q : Nat} {b : UInt8}
end
section
variable {S : List (List UInt8)} {k : Nat} {s t : List UInt8}
end
end Go.Proofs.YtgbfedgghjcdcaaGreatDoor

namespace Go.Proofs.YtgbfedgghjcdcaaGreatDoor
set_option linter.unusedSimpArgs false
set_option linter.unusedVariables false
set_option linter.unusedSectionVars false

structure Tb where
  name : ByteArray
  kind : Int
  cols : List Int
  lo : Int
  hi : Int
  first : Int
structure Tm where
  cell : Int
  factor : Int
deriving DecidableEq
structure Rw where
  terms : List Tm
  bound : Int
deriving DecidableEq
structure Cn where
  kind : Int
  fam : Int
  row : Rw
  first : Int
  size : Int
structure Opn where
  name : ByteArray
  ord : Bool
  sorts : List Int
structure Chg where
  cell : Int
  add : Int
structure Upd where
  kind : Int
  cell : Int
  value : Int
structure Eff where
  delta : List Chg
  hold : List Rw
  ups : List Upd
structure Actn where
  op : Int
  args : List Int
  eff : Eff
structure Hde where
  table : Int
  col : Int
  to : Int
structure Md where
  sorts : List Int
  tables : List Tb
  fams : List ByteArray
  cons : List Cn
  ops : List Opn
  acts : List Actn
  hides : List Hde

section
variable {α : Type} {p : Nat → α → Bool} {l : List α} {q : Nat} {x : α}
theorem all_hit (f : α → Bool) (h : l[q]? = some x) : (l.drop q).all f = (f x && (l.drop (q + 1)).all f) := by rw [drop_get h]; rfl
theorem alle (f : α → Bool) (h : l.length ≤ q) : (l.drop q).all f = true := by rw [drop_end h]; rfl
end
section
variable {S C : List Int}
end
end Go.Proofs.YtgbfedgghjcdcaaGreatDoor

namespace Go.Proofs.YtgbfedgghjcdcaaGreatDoor
set_option linter.unusedSimpArgs false
set_option linter.unusedVariables false
set_option linter.unusedSectionVars false

end Go.Proofs.YtgbfedgghjcdcaaGreatDoor

namespace Go.Proofs.YtgbfedgghjcdcaaGreatDoor
set_option linter.unusedSimpArgs false
set_option linter.unusedVariables false
set_option linter.unusedSectionVars false

section
variable {α : Type}
structure Ordr (lt : α → α → Bool) : Prop where
  asym : ∀ a b, lt a b = true → lt b a = false
  ntr : ∀ a b c, lt a b = false → lt b c = false → lt a c = false
variable (lt : α → α → Bool)
def mrg : List α → List α → List α
  | [], b => b
  | x :: a, [] => x :: a
  | x :: a, y :: b => if lt y x = true then y :: mrg (x :: a) b else x :: mrg a (y :: b)
termination_by a b => a.length + b.length
def insR (x : α) (l : List α) : List α := mrg lt l [x]
def isort (l : List α) : List α := l.foldl (fun o x => insR lt x o) []
def Srt (l : List α) : Prop := l.Pairwise fun a b => lt b a = false
variable {lt}
theorem mrg_nil_l (b : List α) : mrg lt [] b = b := by unfold mrg; rfl
theorem mrg_nil_r (a : List α) : mrg lt a [] = a := by cases a <;> (unfold mrg; rfl)
theorem mrg_r {x y : α} {a b : List α} (h : lt y x = true) : mrg lt (x :: a) (y :: b) = y :: mrg lt (x :: a) b := by rw [mrg, if_pos h]
theorem mrg_l {x y : α} {a b : List α} (h : lt y x = false) : mrg lt (x :: a) (y :: b) = x :: mrg lt a (y :: b) := by rw [mrg, if_neg (by simp [h])]
theorem mrg_mem {z : α} : ∀ (a b : List α), z ∈ mrg lt a b → z ∈ a ∨ z ∈ b
  | [], b, h => by rw [mrg_nil_l] at h; exact .inr h
  | x :: a, [], h => by rw [mrg_nil_r] at h; exact .inl h
  | x :: a, y :: b, h => by
    cases hl : lt y x with
    | true =>
      rw [mrg_r hl] at h
      rcases List.mem_cons.1 h with h | h
      · exact .inr (by simp [h])
      · rcases mrg_mem (x :: a) b h with h | h
        · exact .inl h
        · exact .inr (by simp [h])
    | false =>
      rw [mrg_l hl] at h
      rcases List.mem_cons.1 h with h | h
      · exact .inl (by simp [h])
      · rcases mrg_mem a (y :: b) h with h | h
        · exact .inl (by simp [h])
        · exact .inr h
termination_by a b => a.length + b.length
theorem mrg_srt (O : Ordr lt) : ∀ (a b : List α), Srt lt a → Srt lt b → Srt lt (mrg lt a b)
  | [], b, _, hb => by rw [mrg_nil_l]; exact hb
  | x :: a, [], ha, _ => by rw [mrg_nil_r]; exact ha
  | x :: a, y :: b, ha, hb => by
    have ha' := List.pairwise_cons.1 ha
    have hb' := List.pairwise_cons.1 hb
    cases hl : lt y x with
    | true =>
      rw [mrg_r hl]
      refine List.pairwise_cons.2 ⟨fun z hz => ?_, mrg_srt O (x :: a) b ha hb'.2⟩
      rcases mrg_mem _ _ hz with h | h
      · rcases List.mem_cons.1 h with h | h
        · subst h; exact O.asym _ _ hl
        · exact O.ntr _ _ _ (ha'.1 z h) (O.asym _ _ hl)
      · exact hb'.1 z h
    | false =>
      rw [mrg_l hl]
      refine List.pairwise_cons.2 ⟨fun z hz => ?_, mrg_srt O a (y :: b) ha'.2 hb⟩
      rcases mrg_mem _ _ hz with h | h
      · exact ha'.1 z h
      · rcases List.mem_cons.1 h with h | h
        · subst h; exact hl
        · exact O.ntr _ _ _ (hb'.1 z h) hl
termination_by a b => a.length + b.length
theorem mrg_len : ∀ (a b : List α), (mrg lt a b).length = a.length + b.length
  | [], b => by rw [mrg_nil_l]; simp
  | x :: a, [] => by rw [mrg_nil_r]; simp
  | x :: a, y :: b => by
    cases hl : lt y x with
    | true => rw [mrg_r hl]; have := mrg_len (x :: a) b; simp at this ⊢; omega
    | false => rw [mrg_l hl]; have := mrg_len a (y :: b); simp at this ⊢; omega
termination_by a b => a.length + b.length
theorem mrg_app : ∀ (a1 b1 : List α) {a2 b2 : List α}, (∀ a ∈ a1, ∀ b ∈ b2, lt b a = false) → (∀ b ∈ b1, ∀ a ∈ a2, lt b a = true) → mrg lt (a1 ++ a2) (b1 ++ b2) = mrg lt a1 b1 ++ mrg lt a2 b2
  | [], [], a2, b2, _, _ => by simp [mrg_nil_l]
  | [], y :: b1, a2, b2, h1, h2 => by
    have ih := mrg_app [] b1 (a2 := a2) (b2 := b2) (by simp) (fun b hb a ha => h2 b (by simp [hb]) a ha)
    rw [mrg_nil_l, List.nil_append] at *
    cases a2 with
    | nil => simp [mrg_nil_l]
    | cons x a2 =>
      rw [List.cons_append, mrg_r (h2 y (by simp) x (by simp)), ih]; rfl
  | x :: a1, [], a2, b2, h1, h2 => by
    have ih := mrg_app a1 [] (a2 := a2) (b2 := b2) (fun a ha b hb => h1 a (by simp [ha]) b hb) (by simp)
    rw [mrg_nil_r, List.nil_append] at *
    cases b2 with
    | nil => simp [mrg_nil_r]
    | cons y b2 =>
      rw [List.cons_append, mrg_l (h1 x (by simp) y (by simp)), ih]; rfl
  | x :: a1, y :: b1, a2, b2, h1, h2 => by
    rw [List.cons_append, List.cons_append]
    cases hl : lt y x with
    | true =>
      have ih := mrg_app (x :: a1) b1 (a2 := a2) (b2 := b2) h1 (fun b hb a ha => h2 b (by simp [hb]) a ha)
      rw [List.cons_append] at ih
      rw [mrg_r hl, mrg_r hl, ih]; rfl
    | false =>
      have ih := mrg_app a1 (y :: b1) (a2 := a2) (b2 := b2) (fun a ha b hb => h1 a (by simp [ha]) b hb) h2
      rw [List.cons_append] at ih
      rw [mrg_l hl, mrg_l hl, ih]; rfl
termination_by a b => a.length + b.length
theorem mrg_assoc (O : Ordr lt) : ∀ (a b c : List α), Srt lt a → Srt lt b → Srt lt c → mrg lt (mrg lt a b) c = mrg lt a (mrg lt b c)
  | [], b, c, _, _, _ => by rw [mrg_nil_l, mrg_nil_l]
  | x :: a, [], c, _, _, _ => by rw [mrg_nil_r, mrg_nil_l]
  | x :: a, y :: b, [], _, _, _ => by rw [mrg_nil_r, mrg_nil_r]
  | x :: a, y :: b, z :: c, ha, hb, hc => by
    have ha' := (List.pairwise_cons.1 ha).2
    have hb' := (List.pairwise_cons.1 hb).2
    have hc' := (List.pairwise_cons.1 hc).2
    cases hl : lt y x with
    | true =>
      rw [mrg_r hl]
      cases hz : lt z y with
      | true =>
        have hzx : lt z x = true := by
          cases h : lt z x with
          | true => rfl
          | false => have := O.ntr _ _ _ h (O.asym _ _ hl); rw [hz] at this; cases this
        rw [mrg_r hz, mrg_r hz, mrg_r hzx, ← mrg_assoc O (x :: a) (y :: b) c ha hb hc', mrg_r hl]
      | false =>
        rw [mrg_l hz, mrg_l hz, mrg_r hl, mrg_assoc O (x :: a) b (z :: c) ha hb' hc]
    | false =>
      rw [mrg_l hl]
      cases hz : lt z x with
      | true =>
        have hzy : lt z y = true := by
          cases h : lt z y with
          | true => rfl
          | false => have := O.ntr _ _ _ h hl; rw [hz] at this; cases this
        rw [mrg_r hz, mrg_r hzy, mrg_r hz, ← mrg_assoc O (x :: a) (y :: b) c ha hb hc', mrg_l hl]
      | false =>
        rw [mrg_l hz, mrg_assoc O a (y :: b) (z :: c) ha' hb hc]
        cases hzy : lt z y with
        | true => rw [mrg_r hzy, mrg_l hz]
        | false => rw [mrg_l hzy, mrg_l hl]
termination_by a b c => a.length + b.length + c.length
theorem isort_snoc (l : List α) (x : α) : isort lt (l ++ [x]) = insR lt x (isort lt l) := by simp [isort]
theorem isort_srt (O : Ordr lt) : ∀ (n : Nat) (l : List α), l.length = n → Srt lt (isort lt l)
  | 0, l, h => by rw [List.length_eq_zero_iff.1 h]; exact List.Pairwise.nil
  | n + 1, l, h => by
    rcases List.eq_nil_or_concat l with rfl | ⟨l0, x, rfl⟩
    · exact List.Pairwise.nil
    · rw [List.concat_eq_append, isort_snoc]
      exact mrg_srt O _ _ (isort_srt O n l0 (by simpa using h)) (by simp [Srt])
theorem isort_len : ∀ (n : Nat) (l : List α), l.length = n → (isort lt l).length = n
  | 0, l, h => by rw [List.length_eq_zero_iff.1 h]; rfl
  | n + 1, l, h => by
    rcases List.eq_nil_or_concat l with rfl | ⟨l0, x, rfl⟩
    · simp at h
    · rw [List.concat_eq_append, isort_snoc, insR, mrg_len, isort_len n l0 (by simpa using h)]; rfl
theorem isort_app (O : Ordr lt) (a : List α) : ∀ (n : Nat) (b : List α), b.length = n → isort lt (a ++ b) = mrg lt (isort lt a) (isort lt b)
  | 0, b, h => by rw [List.length_eq_zero_iff.1 h, List.append_nil]; exact (mrg_nil_r _).symm
  | n + 1, b, h => by
    rcases List.eq_nil_or_concat b with rfl | ⟨b0, x, rfl⟩
    · rw [List.append_nil]; exact (mrg_nil_r _).symm
    · rw [List.concat_eq_append, ← List.append_assoc, isort_snoc, isort_snoc, isort_app O a n b0 (by simpa using h), insR, insR]
      exact mrg_assoc O _ _ _ (isort_srt O _ a rfl) (isort_srt O _ b0 rfl) (by simp [Srt])
theorem insR_at (x : α) : ∀ (l1 l2 : List α), (∀ a ∈ l1, lt x a = false) → (∀ a ∈ l2, lt x a = true) → insR lt x (l1 ++ l2) = l1 ++ x :: l2
  | l1, l2, h1, h2 => by
    have := mrg_app (lt := lt) l1 [] (a2 := l2) (b2 := [x]) (by simpa using h1) (by simp)
    rw [List.nil_append, mrg_nil_r] at this
    unfold insR
    rw [this]
    congr 1
    cases l2 with
    | nil => rw [mrg_nil_l]
    | cons y l => rw [mrg_r (h2 y (by simp)), mrg_nil_r]
theorem mrg_one (x : α) (l1 l2 : List α) (h1 : ∀ b ∈ l1, lt b x = true) (h2 : ∀ b ∈ l2, lt b x = false) : mrg lt [x] (l1 ++ l2) = l1 ++ x :: l2 := by
  have := mrg_app (lt := lt) [] l1 (a2 := [x]) (b2 := l2) (by simp) (by simpa using h1)
  rw [List.nil_append, mrg_nil_l] at this
  rw [this]
  congr 1
  cases l2 with
  | nil => rw [mrg_nil_r]
  | cons y l => rw [mrg_l (h2 y (by simp)), mrg_nil_l]
theorem srt_get (O : Ordr lt) {l : List α} (h : Srt lt l) {i j : Nat} {x y : α} (hi : l[i]? = some x) (hj : l[j]? = some y) (hij : i ≤ j) (r : ∀ z, lt z z = false := fun z => by cases e : lt z z with | false => rfl | true => (have := O.asym _ _ e; rw [e] at this; exact this)) : lt y x = false := by
  obtain ⟨h1, rfl⟩ := List.getElem?_eq_some_iff.1 hi
  obtain ⟨h2, rfl⟩ := List.getElem?_eq_some_iff.1 hj
  rcases Nat.lt_or_ge i j with h3 | h3
  · exact List.pairwise_iff_getElem.1 h i j h1 h2 h3
  · obtain rfl : i = j := by omega
    exact r _
theorem Ordr.lt_le (O : Ordr lt) {x y z : α} (h : lt x y = true) (h2 : lt z y = false) : lt x z = true := by
  cases e : lt x z with
  | true => rfl
  | false => have := O.ntr _ _ _ e h2; rw [h] at this; cases this
theorem Ordr.le_lt (O : Ordr lt) {x y z : α} (h : lt y x = false) (h2 : lt y z = true) : lt x z = true := by
  cases e : lt x z with
  | true => rfl
  | false => have := O.ntr _ _ _ h e; rw [h2] at this; cases this
theorem mem_take_get {l : List α} {i : Nat} {x : α} (h : x ∈ l.take i) : ∃ k, k < i ∧ l[k]? = some x := by
  obtain ⟨k, hk⟩ := List.mem_iff_getElem?.1 h
  rw [List.getElem?_take] at hk
  split at hk
  · exact ⟨k, by assumption, hk⟩
  · cases hk
theorem mem_drop_get {l : List α} {i : Nat} {x : α} (h : x ∈ l.drop i) : ∃ k, i ≤ k ∧ l[k]? = some x := by
  obtain ⟨k, hk⟩ := List.mem_iff_getElem?.1 h
  rw [List.getElem?_drop] at hk
  exact ⟨i + k, by omega, hk⟩
theorem get_some {l : List α} {k : Nat} (h : k < l.length) : ∃ x, l[k]? = some x := ⟨_, List.getElem?_eq_getElem h⟩
theorem get_lt {l : List α} {k : Nat} {x : α} (h : l[k]? = some x) : k < l.length := (List.getElem?_eq_some_iff.1 h).1
theorem mrg_part (O : Ordr lt) {A B : List α} (hA : Srt lt A) (hB : Srt lt B) {i j : Nat} (hi : i ≤ A.length) (hj : j ≤ B.length) (h1 : ∀ x y, 0 < i → A[i - 1]? = some x → B[j]? = some y → lt y x = false)
    (h2 : ∀ x y, 0 < j → A[i]? = some x → B[j - 1]? = some y → lt y x = true) : mrg lt A B = mrg lt (A.take i) (B.take j) ++ mrg lt (A.drop i) (B.drop j) := by
  rw [← mrg_app, List.take_append_drop, List.take_append_drop]
  · intro a ha b hb
    obtain ⟨k, hk, ha⟩ := mem_take_get ha
    obtain ⟨k', hk', hb⟩ := mem_drop_get hb
    obtain ⟨x, hx⟩ := get_some (l := A) (k := i - 1) (by omega)
    obtain ⟨y, hy⟩ := get_some (l := B) (k := j) (by have := get_lt hb; omega)
    exact O.ntr _ _ _ (srt_get O hB hy hb hk') (O.ntr _ _ _ (h1 x y (by omega) hx hy) (srt_get O hA ha hx (by omega)))
  · intro b hb a ha
    obtain ⟨k, hk, hb⟩ := mem_take_get hb
    obtain ⟨k', hk', ha⟩ := mem_drop_get ha
    obtain ⟨x, hx⟩ := get_some (l := A) (k := i) (by have := get_lt ha; omega)
    obtain ⟨y, hy⟩ := get_some (l := B) (k := j - 1) (by omega)
    exact O.le_lt (srt_get O hB hb hy (by omega)) (O.lt_le (h2 x y (by omega) hx hy) (srt_get O hA hx ha hk'))
theorem srt_take {A : List α} (h : Srt lt A) (i : Nat) : Srt lt (A.take i) := List.Pairwise.sublist (List.take_sublist i A) h
theorem srt_drop {A : List α} (h : Srt lt A) (i : Nat) : Srt lt (A.drop i) := List.Pairwise.sublist (List.drop_sublist i A) h
theorem mrg_one_at (O : Ordr lt) {x : α} {B : List α} (hB : Srt lt B) {i : Nat} (hi : i ≤ B.length) (h1 : ∀ y, 0 < i → B[i - 1]? = some y → lt y x = true) (h2 : ∀ y, B[i]? = some y → lt y x = false) : mrg lt [x] B = B.take i ++ x :: B.drop i := by
  have := mrg_one (lt := lt) x (B.take i) (B.drop i) (fun b hb => ?_) (fun b hb => ?_)
  · rwa [List.take_append_drop] at this
  · obtain ⟨k, hk, hb⟩ := mem_take_get hb
    obtain ⟨y, hy⟩ := get_some (l := B) (k := i - 1) (by omega)
    exact O.le_lt (srt_get O hB hb hy (by omega)) (h1 y (by omega) hy)
  · obtain ⟨k, hk, hb⟩ := mem_drop_get hb
    obtain ⟨y, hy⟩ := get_some (l := B) (k := i) (by have := get_lt hb; omega)
    exact O.ntr _ _ _ (srt_get O hB hy hb hk) (h2 y hy)
theorem insR_one_at (O : Ordr lt) {x : α} {A : List α} (hA : Srt lt A) {i : Nat} (hi : i ≤ A.length) (h1 : ∀ y, 0 < i → A[i - 1]? = some y → lt x y = false) (h2 : ∀ y, A[i]? = some y → lt x y = true) : mrg lt A [x] = A.take i ++ x :: A.drop i := by
  have := insR_at (lt := lt) x (A.take i) (A.drop i) (fun b hb => ?_) (fun b hb => ?_)
  · rwa [List.take_append_drop] at this
  · obtain ⟨k, hk, hb⟩ := mem_take_get hb
    obtain ⟨y, hy⟩ := get_some (l := A) (k := i - 1) (by omega)
    exact O.ntr _ _ _ (h1 y (by omega) hy) (srt_get O hA hb hy (by omega))
  · obtain ⟨k, hk, hb⟩ := mem_drop_get hb
    obtain ⟨y, hy⟩ := get_some (l := A) (k := i) (by have := get_lt hb; omega)
    exact O.lt_le (h2 y hy) (srt_get O hA hy hb hk)
end
end Go.Proofs.YtgbfedgghjcdcaaGreatDoor

namespace Go.Proofs.YtgbfedgghjcdcaaGreatDoor
set_option linter.unusedSimpArgs false
set_option linter.unusedVariables false
set_option linter.unusedSectionVars false

def sg (a b : Int) : Int := if a < b then -1 else if b < a then 1 else 0
def orS : List Int → Int
  | [] => 0
  | x :: l => if x = 0 then orS l else x
def cmpE (a b : Ev) : Int := orS [sg a.t b.t, sg a.r b.r, sg a.n b.n]
def ltE (a b : Ev) : Bool := if a.t = b.t then (if a.r = b.r then decide (a.n < b.n) else decide (a.r < b.r)) else decide (a.t < b.t)
theorem cmpE_lt (a b : Ev) : cmpE a b < 0 ↔ ltE a b = true := by
  unfold cmpE ltE sg orS orS orS orS
  repeat' split
  all_goals (simp; try omega)
theorem ltE_f {a b : Ev} : ltE a b = false ↔ b.t < a.t ∨ (a.t = b.t ∧ (b.r < a.r ∨ (a.r = b.r ∧ b.n ≤ a.n))) := by
  unfold ltE
  split
  · split
    · simp; omega
    · simp; omega
  · simp; omega
theorem ltE_t {a b : Ev} : ltE a b = true ↔ a.t < b.t ∨ (a.t = b.t ∧ (a.r < b.r ∨ (a.r = b.r ∧ a.n < b.n))) := by
  rw [← Bool.not_eq_false, ltE_f]
  omega
theorem ltE_ord : Ordr ltE where
  asym := fun a b h => by
    rw [ltE_t] at h
    rw [ltE_f]
    omega
  ntr := fun a b c h1 h2 => by
    rw [ltE_f] at *
    omega
section
variable {α : Type} (lt : α → α → Bool)
end
section
variable {α : Type}
theorem set_at (P : List α) (x y : α) (R : List α) {k : Nat} (h : k = P.length) : (P ++ x :: R).set k y = P ++ y :: R := by
  subst h
  simp
theorem get_at (P : List α) (x : α) (R : List α) {k : Nat} (h : k = P.length) : (P ++ x :: R)[k]? = some x := by
  subst h
  simp
end
end Go.Proofs.YtgbfedgghjcdcaaGreatDoor

namespace Go.Proofs.YtgbfedgghjcdcaaGreatDoor
set_option linter.unusedSimpArgs false
set_option linter.unusedVariables false
set_option linter.unusedSectionVars false

def nm (e : Ev) : Int × Int := (e.r, e.n)
def dotsF : Nat → List Int → List (Int × Int)
  | _, [] => []
  | r, n :: c => (List.range n.toNat).map (fun i : Nat => ((r : Int), (i : Int) + 1)) ++ dotsF (r + 1) c
def befB (a b : Ev) : Bool := formB a && (formB b && hasS b.past a.r a.n)
structure ClosedP (l : List Ev) : Prop where
  few : l.length ≤ 1024
  form : ∀ e ∈ l, formB e = true
  alike : ∀ e ∈ l, ∀ x ∈ l, e.past.length = x.past.length
  names : (l.map nm).Nodup
  down : ∀ e ∈ l, ∀ r n, hasS e.past r n = true → ∃ x ∈ l, nm x = (r, n) ∧ insideB x.past e.past = true ∧ x.t < e.t
open Classical in
noncomputable def closedB (l : List Ev) : Bool := decide (ClosedP l)
section
open Classical
theorem closedB_t {l : List Ev} (h : ClosedP l) : closedB l = true := by unfold closedB; exact decide_eq_true h
theorem closedB_f {l : List Ev} (h : ¬ ClosedP l) : closedB l = false := by unfold closedB; exact decide_eq_false h
theorem closedB_iff {l : List Ev} : closedB l = true ↔ ClosedP l := by unfold closedB; exact decide_eq_true_iff
end

theorem dots_mem {p : Int × Int} : ∀ (c : List Int) (r : Nat), p ∈ dotsF r c ↔ ∃ k, k < c.length ∧ p.1 = (r + k : Nat) ∧ 1 ≤ p.2 ∧ p.2 ≤ c.getD k 0
  | [], r => by simp [dotsF]
  | n :: c, r => by
    rw [dotsF, List.mem_append, dots_mem c (r + 1)]
    constructor
    · rintro (h | ⟨k, h1, h2, h3, h4⟩)
      · simp only [List.mem_map, List.mem_range] at h
        obtain ⟨i, hi, rfl⟩ := h
        refine ⟨0, by simp, by simp, by dsimp only; omega, ?_⟩
        show (i : Int) + 1 ≤ n
        omega
      · refine ⟨k + 1, by simp; omega, by omega, h3, ?_⟩
        simpa using h4
    · rintro ⟨k, h1, h2, h3, h4⟩
      cases k with
      | zero =>
        left
        have h4 : p.2 ≤ n := by simpa using h4
        simp only [List.mem_map, List.mem_range]
        refine ⟨(p.2 - 1).toNat, by omega, ?_⟩
        obtain ⟨p1, p2⟩ := p
        simp only [Prod.mk.injEq]
        simp at h2 h3
        constructor <;> omega
      | succ k =>
        right
        exact ⟨k, by simp at h1; omega, by omega, h3, by simpa using h4⟩
theorem dots_has {c : List Int} (hv : validB c = true) {r n : Int} : (r, n) ∈ dotsF 0 c ↔ hasS c r n = true := by
  rw [dots_mem]
  unfold hasS
  simp only [hv, Bool.true_and, Bool.and_eq_true, decide_eq_true_eq]
  constructor
  · rintro ⟨k, h1, h2, h3, h4⟩
    have h2 : r = (k : Int) := by simpa using h2
    subst h2
    exact ⟨by omega, by omega, h3, by simpa using h4⟩
  · rintro ⟨h1, h2, h3, h4⟩
    exact ⟨r.toNat, by omega, by simp; omega, h3, h4⟩
theorem nodup_map {α β : Type} {f : α → β} (hf : ∀ a b, f a = f b → a = b) : ∀ {l : List α}, l.Nodup → (l.map f).Nodup
  | [], _ => List.nodup_nil
  | x :: l, h => by
    have h := List.nodup_cons.1 h
    rw [List.map_cons, List.nodup_cons]
    refine ⟨fun hm => ?_, nodup_map hf h.2⟩
    obtain ⟨y, hy, e⟩ := List.mem_map.1 hm
    rw [hf _ _ e] at hy
    exact h.1 hy
theorem dots_nodup : ∀ (c : List Int) (r : Nat), (dotsF r c).Nodup
  | [], r => List.nodup_nil
  | n :: c, r => by
    rw [dotsF, List.nodup_append]
    refine ⟨nodup_map (fun a b h => by simp only [Prod.mk.injEq] at h; omega) List.nodup_range, dots_nodup c (r + 1), fun a ha b hb e => ?_⟩
    subst e
    obtain ⟨i, _, rfl⟩ := List.mem_map.1 ha
    obtain ⟨k, _, h2, _⟩ := (dots_mem c (r + 1)).1 hb
    dsimp only at h2
    omega
theorem foldl_add : ∀ (c : List Int) (a : Int), c.foldl (· + ·) a = a + c.foldl (· + ·) 0
  | [], a => by simp
  | x :: c, a => by
    rw [List.foldl_cons, List.foldl_cons, foldl_add c (a + x), foldl_add c (0 + x)]
    omega
theorem dots_len : ∀ (c : List Int) (r : Nat), (∀ n ∈ c, 0 ≤ n) → ((dotsF r c).length : Int) = sumL c
  | [], r, _ => rfl
  | n :: c, r, h => by
    have ih := dots_len c (r + 1) (fun x hx => h x (by simp [hx]))
    have h0 := h n (by simp)
    rw [dotsF, List.length_append, List.length_map, List.length_range]
    unfold sumL at ih ⊢
    rw [List.foldl_cons, foldl_add c (0 + n), ← ih]
    omega
section
variable {α : Type} [DecidableEq α]
theorem nd_le : ∀ {L D : List α}, L.Nodup → (∀ x ∈ L, x ∈ D) → L.length ≤ D.length ∧ (L.length = D.length → ∀ x ∈ D, x ∈ L)
  | [], D, _, _ => ⟨by simp, fun h x hx => by
    have : D = [] := List.length_eq_zero_iff.1 (by simpa using h.symm)
    subst this; cases hx⟩
  | y :: L, D, hL, hs => by
    have hy := hs y (by simp)
    have hL' := List.nodup_cons.1 hL
    have hlen := List.length_erase_of_mem hy
    have hpos : 0 < D.length := List.length_pos_of_mem hy
    have ih := nd_le (L := L) (D := D.erase y) hL'.2 (fun x hx => (List.mem_erase_of_ne (fun e => by subst e; exact hL'.1 hx)).2 (hs x (by simp [hx])))
    refine ⟨by simp; omega, fun he x hx => ?_⟩
    by_cases e : x = y
    · simp [e]
    · have := ih.2 (by simp at he; omega) x ((List.mem_erase_of_ne e).2 hx)
      simp [this]
theorem nd_iff {L D : List α} {p : α → Bool} (hp : ∀ x, p x = true ↔ x ∈ D) (hL : L.Nodup) (hD : D.Nodup) : L.countP p = D.length ↔ ∀ x ∈ D, x ∈ L := by
  rw [List.countP_eq_length_filter]
  have hF : (L.filter p).Nodup := hL.filter _
  have hs : ∀ x ∈ L.filter p, x ∈ D := fun x hx => (hp x).1 (List.mem_filter.1 hx).2
  constructor
  · intro h x hx
    exact (List.mem_filter.1 ((nd_le hF hs).2 h x hx)).1
  · intro h
    have h1 := (nd_le hF hs).1
    have h2 := (nd_le (L := D) (D := L.filter p) hD (fun x hx => List.mem_filter.2 ⟨h x hx, (hp x).2 hx⟩)).1
    omega
end
theorem form_valid {e : Ev} (h : formB e = true) : validB e.past = true := by
  simp only [formB, headOk, Bool.and_eq_true] at h
  exact h.1.1
theorem valid_nn {c : List Int} (h : validB c = true) : ∀ n ∈ c, 0 ≤ n := fun n hn => by
  obtain ⟨k, hk, rfl⟩ := List.mem_iff_getElem.1 hn
  exact (ok1_at h (List.getElem?_eq_getElem hk)).1
def nIn (l : List Ev) (e : Ev) : Nat := l.countP fun x => befB x e
theorem nIn_iff {l : List Ev} (hf : ∀ e ∈ l, formB e = true) (hn : (l.map nm).Nodup) {e : Ev} (he : formB e = true) : (nIn l e : Int) = countS e.past ↔ ∀ r n, hasS e.past r n = true → ∃ x ∈ l, nm x = (r, n) := by
  have hv := form_valid he
  have h1 : countS e.past = ((dotsF 0 e.past).length : Int) := by rw [countS, if_pos hv, dots_len _ _ (valid_nn hv)]
  have h2 : nIn l e = (l.map nm).countP (fun p => decide (p ∈ dotsF 0 e.past)) := by
    unfold nIn
    rw [List.countP_map]
    refine List.countP_congr fun x hx => ?_
    simp only [befB, hf x hx, he, Bool.true_and, Function.comp, decide_eq_true_eq]
    exact (dots_has hv).symm
  rw [h1, h2]
  have := nd_iff (p := fun p => decide (p ∈ dotsF 0 e.past)) (fun x => decide_eq_true_iff) hn (dots_nodup e.past 0)
  constructor
  · intro h r n hh
    have := this.1 (by omega) (r, n) ((dots_has hv).2 hh)
    obtain ⟨x, hx, ex⟩ := List.mem_map.1 this
    exact ⟨x, hx, ex⟩
  · intro h
    have := this.2 (fun p hp => by
      obtain ⟨x, hx, ex⟩ := h p.1 p.2 ((dots_has hv).1 hp)
      exact List.mem_map.2 ⟨x, hx, ex⟩)
    omega
theorem nm_inj {l : List Ev} (hn : (l.map nm).Nodup) : ∀ {x y : Ev}, x ∈ l → y ∈ l → nm x = nm y → x = y := by
  induction l with
  | nil => intro x y hx; cases hx
  | cons z l ih =>
    intro x y hx hy e
    rw [List.map_cons, List.nodup_cons] at hn
    rcases List.mem_cons.1 hx with h1 | h1 <;> rcases List.mem_cons.1 hy with h2 | h2
    · rw [h1, h2]
    · subst h1; exact absurd (List.mem_map.2 ⟨y, h2, e.symm⟩) hn.1
    · subst h2; exact absurd (List.mem_map.2 ⟨x, h1, e⟩) hn.1
    · exact ih hn.2 h1 h2 e
structure ClosedR (l : List Ev) (e : Ev) : Prop where
  inside : ∀ x ∈ l, befB x e = true → insideB x.past e.past = true ∧ x.t < e.t
  count : (nIn l e : Int) = countS e.past
theorem closed_ref {l : List Ev} (few : l.length ≤ 1024) (form : ∀ e ∈ l, formB e = true) (alike : ∀ e ∈ l, ∀ x ∈ l, e.past.length = x.past.length) (names : (l.map nm).Nodup) : ClosedP l ↔ ∀ e ∈ l, ClosedR l e := by
  constructor
  · intro h e he
    have hf := form e he
    refine ⟨fun x hx hb => ?_, (nIn_iff form names hf).2 fun r n hh => ?_⟩
    · simp only [befB, Bool.and_eq_true] at hb
      obtain ⟨y, hy, ey, h1, h2⟩ := h.down e he _ _ hb.2.2
      obtain rfl := nm_inj names hy hx ey
      exact ⟨h1, h2⟩
    · obtain ⟨x, hx, ex, _⟩ := h.down e he r n hh
      exact ⟨x, hx, ex⟩
  · intro h
    refine ⟨few, form, alike, names, fun e he r n hh => ?_⟩
    obtain ⟨x, hx, ex⟩ := (nIn_iff form names (form e he)).1 (h e he).count r n hh
    have hb : befB x e = true := by
      simp only [nm, Prod.mk.injEq] at ex
      simp [befB, form x hx, form e he, ex.1, ex.2, hh]
    exact ⟨x, hx, ex, (h e he).inside x hx hb⟩
end Go.Proofs.YtgbfedgghjcdcaaGreatDoor

namespace Go.Proofs.YtgbfedgghjcdcaaGreatDoor
set_option linter.unusedSimpArgs false
set_option linter.unusedVariables false
set_option linter.unusedSectionVars false

section
variable {α : Type} {lt : α → α → Bool}
theorem mrg_perm : ∀ (a b : List α), (mrg lt a b).Perm (a ++ b)
  | [], b => by rw [mrg_nil_l]; exact List.Perm.refl _
  | x :: a, [] => by rw [mrg_nil_r, List.append_nil]
  | x :: a, y :: b => by
    cases hl : lt y x with
    | true =>
      rw [mrg_r hl]
      exact ((mrg_perm (x :: a) b).cons y).trans List.perm_middle.symm
    | false =>
      rw [mrg_l hl]
      exact (mrg_perm a (y :: b)).cons x
termination_by a b => a.length + b.length
theorem isort_perm : ∀ (n : Nat) (l : List α), l.length = n → (isort lt l).Perm l
  | 0, l, h => by rw [List.length_eq_zero_iff.1 h]; exact List.Perm.refl _
  | n + 1, l, h => by
    rcases List.eq_nil_or_concat l with rfl | ⟨l0, x, rfl⟩
    · exact List.Perm.refl _
    · rw [List.concat_eq_append, isort_snoc]
      exact (mrg_perm _ _).trans ((isort_perm n l0 (by simpa using h)).append_right [x])
end
def ordE (l : List Ev) : List Ev := isort ltE l
theorem ordE_len (l : List Ev) : (ordE l).length = l.length := isort_len _ l rfl
theorem ordE_mem {l : List Ev} {e : Ev} : e ∈ ordE l ↔ e ∈ l := (isort_perm _ l rfl).mem_iff
section
variable {l : List Ev} (h : ClosedP l)
include h
end
def clkStep (c : List Int) (e : Ev) : List Int := c.set e.r.toNat (max (c.getD e.r.toNat 0) e.n)
def clkE (m : Nat) (l : List Ev) : List Int := l.foldl clkStep (List.replicate m 0)
theorem clkStep_len (c : List Int) (e : Ev) : (clkStep c e).length = c.length := by simp [clkStep]
theorem clkF_len : ∀ (l : List Ev) (c : List Int), (l.foldl clkStep c).length = c.length
  | [], c => rfl
  | e :: l, c => by rw [List.foldl_cons, clkF_len l, clkStep_len]
theorem clkE_len (m : Nat) (l : List Ev) : (clkE m l).length = m := by unfold clkE; rw [clkF_len]; simp
theorem clkE_snoc {m : Nat} {l : List Ev} {k : Nat} {e : Ev} (h : l[k]? = some e) : clkE m (l.take (k + 1)) = clkStep (clkE m (l.take k)) e := foldl_snoc _ _ h
theorem form_rng {e : Ev} (h : formB e = true) : 0 ≤ e.r ∧ e.r < e.past.length ∧ e.n = e.past.getD e.r.toNat 0 + 1 ∧ e.n ≤ 1024 := by
  simp only [formB, headOk, betB, Bool.and_eq_true, decide_eq_true_eq] at h
  omega
def cutE (l : List Ev) (c : List Int) : List Ev := l.filter fun e => hasS c e.r e.n
end Go.Proofs.YtgbfedgghjcdcaaGreatDoor
