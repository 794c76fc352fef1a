/- The texts of clocks: how they are read, in plain Lean. No condition. -/
import Derived.Test.YtgbfedgghjcdcaaGreatDoorSpecT
import Derived.Lib.AtoiTie
import Derived.Lib.SplitLaws
import Derived.Lib.Split
import Derived.Lib.Strings
namespace Go.Proofs.YtgbfedgghjcdcaaGreatDoor
set_option linter.unusedSimpArgs false
set_option linter.unusedVariables false
set_option linter.unusedSectionVars false
open Go

def isDig (b : UInt8) : Bool := decide (48 ≤ b.toNat) && decide (b.toNat ≤ 57)
def dvF (a : Nat) (l : List UInt8) : Nat := l.foldl (fun a b => 10 * a + (b.toNat - 48)) a
def dv (l : List UInt8) : Nat := dvF 0 l
theorem dvF_append (a : Nat) (x y : List UInt8) : dvF a (x ++ y) = dvF (dvF a x) y := by simp [dvF, List.foldl_append]

theorem dig_byte {d : Nat} (h : d < 10) : (UInt8.ofNat (48 + d)).toNat = 48 + d := by
  simp [UInt8.toNat_ofNat']; omega
theorem isDig_byte {d : Nat} (h : d < 10) : isDig (UInt8.ofNat (48 + d)) = true := by
  simp only [isDig, dig_byte h, Bool.and_eq_true, decide_eq_true_eq]; omega
theorem dec_digs : ∀ (k u : Nat), u < 10 ^ k → (Lib.decDigits u).all isDig = true ∧ dv (Lib.decDigits u) = u
  | 0, u, h => by
    obtain rfl : u = 0 := by simpa using h
    rw [Lib.decDigits_one (by omega)]
    exact ⟨by simp [isDig], by simp [dv, dvF]⟩
  | k + 1, u, h => by
    by_cases hu : u < 10
    · rw [Lib.decDigits_one hu]
      refine ⟨by rw [List.all_cons, isDig_byte hu]; rfl, ?_⟩
      simp only [dv, dvF, List.foldl_cons, List.foldl_nil, dig_byte hu]; omega
    · rw [Lib.decDigits, dif_neg hu]
      have ⟨h1, h2⟩ := dec_digs k (u / 10) (by rw [Nat.pow_succ] at h; omega)
      have h10 : u % 10 < 10 := by omega
      refine ⟨by rw [List.all_append, h1, List.all_cons, isDig_byte h10]; rfl, ?_⟩
      unfold dv at h2 ⊢
      rw [dvF_append, h2]
      simp only [dvF, List.foldl_cons, List.foldl_nil, dig_byte h10]; omega
theorem itoa_dec {n : Int} (h : 0 ≤ n) : Lib.itoa n = Lib.decDigits n.toNat := by rw [Lib.itoa, if_neg (by omega)]
theorem itoa_digs {n : Int} (h : 0 ≤ n) : (Lib.itoa n).all isDig = true ∧ (dv (Lib.itoa n) : Int) = n ∧ Lib.itoa n ≠ [] := by
  rw [itoa_dec h]
  have ⟨h1, h2⟩ := dec_digs n.toNat n.toNat (Nat.lt_pow_self (by omega))
  refine ⟨h1, by rw [h2]; omega, ?_⟩
  intro h0
  have := Lib.decDigits_length n.toNat
  have hp := Lib.nDigits_pos n.toNat
  rw [h0] at this; simp at this; omega

theorem takeWhile_split {p : UInt8 → Bool} : ∀ {x : List UInt8} {b : UInt8} {r : List UInt8}, x.all p = true → p b = false → (x ++ b :: r).takeWhile p = x
  | [], b, r, _, hb => by simp [hb]
  | a :: x, b, r, h, hb => by
    simp only [List.all_cons, Bool.and_eq_true] at h
    rw [List.cons_append, List.takeWhile_cons, if_pos h.1, takeWhile_split h.2 hb]

/-- How many digits stand ahead. -/
def nlead (s : List UInt8) : Nat := (s.takeWhile isDig).length
theorem nlead_le (s : List UInt8) : nlead s ≤ s.length := (List.takeWhile_sublist _).length_le
/-- The number ahead of a text, and its size. -/
def numR (s : List UInt8) : Int × Nat :=
  if nlead s ≤ 7 ∧ 1 ≤ nlead s ∧ Lib.itoa (dv (s.take (nlead s))) = s.take (nlead s) then (dv (s.take (nlead s)), nlead s) else (-1, 0)
def refGo : Nat → List Int → List UInt8 → Option (List Int)
  | 0, _, _ => none
  | f + 1, xs, s =>
    if (numR s).2 = 0 then none
    else if s.drop (numR s).2 = [93] ∧ validB (xs ++ [(numR s).1]) = true then some (xs ++ [(numR s).1])
    else match s.drop (numR s).2 with
      | [] => none
      | b :: r => if b = 32 then refGo f (xs ++ [(numR s).1]) r else none
def refP : List UInt8 → Option (List Int)
  | [] => none
  | b :: r => if b = 91 then refGo (r.length + 1) [] r else none

theorem numR_hit {n : Int} {b : UInt8} {r : List UInt8} (h : ok1 n = true) (hb : isDig b = false) : numR (Lib.itoa n ++ b :: r) = (n, (Lib.itoa n).length) := by
  have ⟨h0, h1⟩ := ok1_of h
  have ⟨hd, hv, hne⟩ := itoa_digs h0
  have hl : nlead (Lib.itoa n ++ b :: r) = (Lib.itoa n).length := by rw [nlead, takeWhile_split hd hb]
  have h4 := itoa_len h0 h1
  have hp : 1 ≤ (Lib.itoa n).length := by cases hx : Lib.itoa n with | nil => exact absurd hx hne | cons _ _ => simp
  rw [numR, hl, List.take_left', hv, if_pos ⟨by omega, hp, rfl⟩]
  rfl
theorem numR_some {s : List UInt8} (h : (numR s).2 ≠ 0) : s = Lib.itoa (numR s).1 ++ s.drop (numR s).2 := by
  unfold numR at h ⊢
  split at h
  · rename_i hc
    rw [if_pos hc]
    show s = Lib.itoa _ ++ s.drop (nlead s)
    rw [hc.2.2, List.take_append_drop]
  · exact absurd rfl h
theorem numsT_cons2 (n m : Int) (t : List Int) : numsT (n :: m :: t) = Lib.itoa n ++ 32 :: numsT (m :: t) := by
  simp [numsT, Lib.join_cons, Lib.joinTail]
theorem numsT_one (n : Int) : numsT [n] = Lib.itoa n := by simp [numsT, Lib.join_one]

theorem refGo_sound : ∀ (f : Nat) (xs : List Int) (s : List UInt8) (c : List Int), refGo f xs s = some c → validB c = true ∧ ∃ n t, c = xs ++ n :: t ∧ s = numsT (n :: t) ++ [93]
  | 0, xs, s, c, h => by cases h
  | f + 1, xs, s, c, h => by
    unfold refGo at h
    by_cases hk : (numR s).2 = 0
    · rw [if_pos hk] at h; cases h
    · rw [if_neg hk] at h
      have hs := numR_some hk
      split at h
      · rename_i hc
        cases h
        refine ⟨hc.2, (numR s).1, [], rfl, ?_⟩
        rw [numsT_one, ← hc.1]; exact hs
      · split at h
        · cases h
        · rename_i b r hr
          split at h
          · rename_i hb
            subst hb
            obtain ⟨hv, m, t, rfl, rfl⟩ := refGo_sound f _ _ _ h
            refine ⟨hv, (numR s).1, m :: t, by simp, ?_⟩
            rw [hr] at hs
            rw [numsT_cons2, List.append_assoc]
            exact hs
          · cases h
theorem refGo_full : ∀ (f : Nat) (xs : List Int) (n : Int) (t : List Int), t.length < f → validB (xs ++ n :: t) = true → refGo f xs (numsT (n :: t) ++ [93]) = some (xs ++ n :: t)
  | 0, xs, n, t, h, _ => by omega
  | f + 1, xs, n, t, h, hv => by
    have hok : ok1 n = true := by
      simp only [validB, Bool.and_eq_true, List.all_eq_true] at hv
      exact hv.1.1 n (by simp)
    unfold refGo
    have hne : (Lib.itoa n).length ≠ 0 := by
      have := (itoa_digs (ok1_of hok).1).2.2
      intro h0; exact this (List.eq_nil_of_length_eq_zero h0)
    cases t with
    | nil =>
      rw [numsT_one, numR_hit hok (by decide)]
      simp only [List.drop_left', hne, if_false]
      simp [hv]
    | cons m t =>
      rw [numsT_cons2, List.append_assoc, List.cons_append, numR_hit hok (by decide)]
      simp only [List.drop_left', hne, if_false]
      rw [if_neg (by simp)]
      have := refGo_full f (xs ++ [n]) m t (by simp at h; omega) (by simpa using hv)
      simpa using this
theorem numsT_size (n : Int) : ∀ (t : List Int), t.length ≤ (numsT (n :: t)).length := by
  intro t
  rw [numsT, List.map_cons, Lib.join_length]
  simp
/-- The reference reads exactly the texts of valid clocks. -/
theorem refP_iff (s : List UInt8) (c : List Int) : refP s = some c ↔ validB c = true ∧ fmtS c = s := by
  constructor
  · intro h
    unfold refP at h
    split at h
    · cases h
    · split at h
      · rename_i hb
        subst hb
        obtain ⟨hv, n, t, hc, rfl⟩ := refGo_sound _ _ _ _ h
        simp at hc
        subst hc
        exact ⟨hv, by simp [fmtS, hv]⟩
      · cases h
  · rintro ⟨hv, rfl⟩
    cases c with
    | nil => simp [validB] at hv
    | cons n t =>
      simp only [fmtS, hv, if_true, refP]
      have := refGo_full ((numsT (n :: t) ++ [93]).length + 1) [] n t (by have := numsT_size n t; simp; omega) (by simpa using hv)
      simpa using this

/-! The code's reading. -/
def atois : List (List UInt8) → Option (List Int)
  | [] => some []
  | x :: r => match Lib.atoiAll x with
    | .ok v => (atois r).map (v :: ·)
    | _ => none
def bodyOf (t : List UInt8) : List UInt8 := Lib.trimSuffix (Lib.trimPrefix t [91]) [93]
def wordsOf (b : List UInt8) : List (List UInt8) := Lib.splitK [32] 0 (Lib.count b [32]) b
def clkP (t : List UInt8) : Option (List Int) :=
  if Lib.hasPrefix t [91] = true ∧ Lib.hasSuffix (Lib.trimPrefix t [91]) [93] = true then
    match atois (wordsOf (bodyOf t)) with
    | none => none
    | some c => if fmtS c = t then some c else none
  else none

theorem occ_none {x : List UInt8} (h : x.all isDig = true) : Lib.index x [32] = -1 := by
  refine Lib.index_none fun j hj => ?_
  cases ho : Lib.occAt x [32] j with
  | false => rfl
  | true =>
    have h1 := Lib.occAt_head rfl ho
    have := List.all_eq_true.1 h 32 (List.mem_of_getElem? h1)
    simp [isDig] at this
theorem occ_word {x r : List UInt8} (h : x.all isDig = true) : Lib.index (x ++ 32 :: r) [32] = x.length := by
  refine Lib.index_first (by simp) ?_ fun j hj => ?_
  · simp [Lib.occAt]
  · cases ho : Lib.occAt (x ++ 32 :: r) [32] j with
    | false => rfl
    | true =>
      have h1 := Lib.occAt_head rfl ho
      rw [List.getElem?_append_left hj] at h1
      have := List.all_eq_true.1 h 32 (List.mem_of_getElem? h1)
      simp [isDig] at this
theorem words_nums : ∀ (n : Int) (t : List Int), (n :: t).all ok1 = true → wordsOf (numsT (n :: t)) = (n :: t).map Lib.itoa
  | n, [], h => by
    simp only [List.all_cons, Bool.and_eq_true] at h
    have hd := (itoa_digs (ok1_of h.1).1).1
    rw [numsT_one, wordsOf, Lib.count_miss (occ_none hd)]
    rfl
  | n, m :: t, h => by
    have h' := h
    rw [List.all_cons, Bool.and_eq_true] at h
    have hd := (itoa_digs (ok1_of h.1).1).1
    have ih := words_nums m t h.2
    rw [numsT_cons2]
    unfold wordsOf at ih ⊢
    rw [Lib.count_hit (by simp) (occ_word hd)]
    have hdr : List.drop ((Lib.itoa n).length + [(32 : UInt8)].length) (Lib.itoa n ++ 32 :: numsT (m :: t)) = numsT (m :: t) := by
      rw [List.drop_append]; simp
    rw [hdr, Nat.add_comm 1, Lib.splitK]
    simp only [occ_word hd]
    rw [if_neg (by simp)]
    have hdr' := hdr
    simp only [Int.toNat_natCast, Nat.add_zero, List.take_left'] at hdr' ⊢
    rw [hdr', ih]
    rfl
theorem decFrom_dv : ∀ (x : List UInt8) (a : Nat), x.all isDig = true → Lib.decFrom a x = some (dvF a x)
  | [], a, _ => rfl
  | b :: x, a, h => by
    simp only [List.all_cons, Bool.and_eq_true, isDig, decide_eq_true_eq] at h
    have hd : Lib.digitVal b = some (b.toNat - 48) := by rw [Lib.digitVal, if_pos h.1]
    rw [Lib.decFrom, hd]
    show Lib.decFrom _ x = _
    rw [decFrom_dv x _ (by simp only [List.all_eq_true, isDig, Bool.and_eq_true, decide_eq_true_eq] at h ⊢; exact h.2)]
    simp [dvF, Nat.mul_comm]
theorem atoiAll_itoa {n : Int} (h : ok1 n = true) : Lib.atoiAll (Lib.itoa n) = .ok n := by
  have ⟨h0, h1⟩ := ok1_of h
  have ⟨hd, hv, hne⟩ := itoa_digs h0
  have h4 := itoa_len h0 h1
  rw [Lib.atoiAll_short _ (by omega)]
  have hf := decFrom_dv _ 0 hd
  cases hx : Lib.itoa n with
  | nil => exact absurd hx hne
  | cons b r =>
    rw [hx] at hd hv hf
    have hb : isDig b = true := by simp only [List.all_cons, Bool.and_eq_true] at hd; exact hd.1
    simp only [isDig, Bool.and_eq_true, decide_eq_true_eq] at hb
    have e1 : (b == 45) = false := by rw [beq_eq_false_iff_ne]; rintro rfl; simp at hb
    have e2 : (b == 43) = false := by rw [beq_eq_false_iff_ne]; rintro rfl; simp at hb
    simp only [Lib.atoi, e1, e2, Lib.decNat, List.isEmpty_cons]
    simp only [Bool.false_eq_true, if_false]
    rw [hf]
    unfold dv at hv
    show Lib.NumEnd.ok ((dvF 0 (b :: r) : Nat) : Int) = _
    exact congrArg _ hv
theorem atois_itoa : ∀ (c : List Int), c.all ok1 = true → atois (c.map Lib.itoa) = some c
  | [], _ => rfl
  | n :: t, h => by
    rw [List.all_cons, Bool.and_eq_true] at h
    rw [List.map_cons, atois, atoiAll_itoa h.1, atois_itoa t h.2]
    rfl
theorem clkP_iff (s : List UInt8) (c : List Int) : clkP s = some c ↔ validB c = true ∧ fmtS c = s := by
  constructor
  · intro h
    unfold clkP at h
    split at h
    · rename_i hc
      split at h
      · cases h
      · split at h
        · rename_i c' _ hf
          cases h
          refine ⟨?_, hf⟩
          cases hv : validB c with
          | true => rfl
          | false =>
            have h0 : s = [] := by rw [← hf, fmtS, hv]; rfl
            rw [h0] at hc
            simp [Lib.hasPrefix] at hc
        · cases h
    · cases h
  · rintro ⟨hv, rfl⟩
    cases c with
    | nil => simp [validB] at hv
    | cons n t =>
      have hok : (n :: t).all ok1 = true := by simp only [validB, Bool.and_eq_true] at hv; exact hv.1.1
      have hf : fmtS (n :: t) = 91 :: (numsT (n :: t) ++ [93]) := by simp [fmtS, hv]
      have hp : Lib.hasPrefix (91 :: (numsT (n :: t) ++ [93])) [91] = true := by simp [Lib.hasPrefix]
      have ht : Lib.trimPrefix (91 :: (numsT (n :: t) ++ [93])) [91] = numsT (n :: t) ++ [93] := by rw [Lib.trimPrefix, if_pos hp]; rfl
      have hs : Lib.hasSuffix (numsT (n :: t) ++ [93]) [93] = true := by
        rw [Lib.hasSuffix, List.isSuffixOf_iff_suffix]; exact List.suffix_append _ _
      have hb : bodyOf (91 :: (numsT (n :: t) ++ [93])) = numsT (n :: t) := by
        rw [bodyOf, ht, Lib.trimSuffix, if_pos hs]; simp
      rw [clkP, hf, if_pos ⟨hp, by rw [ht]; exact hs⟩, hb, words_nums _ _ hok, atois_itoa _ hok]
      simp only [hf]
      exact if_pos trivial
theorem refP_clkP (s : List UInt8) : refP s = clkP s := by
  cases h : clkP s with
  | some c => rw [refP_iff]; exact (clkP_iff s c).1 h
  | none =>
    cases h' : refP s with
    | none => rfl
    | some c =>
      have := (clkP_iff s c).2 ((refP_iff s c).1 h')
      rw [this] at h; cases h
end Go.Proofs.YtgbfedgghjcdcaaGreatDoor
