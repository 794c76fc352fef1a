/- The texts of events, in plain Lean: how they are written and read. No condition. -/
import Derived.Test.YtgbfedgghjcdcaaGreatDoorSpecP
import Derived.Test.YtgbfedgghjcdcaaGreatDoorSpecE
import Derived.Lib.IndexLaws
namespace Go.Proofs.YtgbfedgghjcdcaaGreatDoor
set_option linter.unusedSimpArgs false
set_option linter.unusedVariables false
set_option linter.unusedSectionVars false
open Go

/-! words -/
def noB (c : UInt8) (w : List UInt8) : Bool := w.all fun b => b != c
theorem noB_mem {c : UInt8} {w : List UInt8} (h : noB c w = true) {b : UInt8} (hb : b ∈ w) : b ≠ c := by
  have := List.all_eq_true.1 h b hb
  simpa using this
theorem noB_app {c : UInt8} {a b : List UInt8} : noB c (a ++ b) = (noB c a && noB c b) := by simp [noB]
theorem noB_cons {c b : UInt8} {w : List UInt8} : noB c (b :: w) = ((b != c) && noB c w) := rfl
theorem idx_none {c : UInt8} {x : List UInt8} (h : noB c x = true) : Lib.index x [c] = -1 := by
  refine Lib.index_none fun j hj => ?_
  cases ho : Lib.occAt x [c] j with
  | false => rfl
  | true => exact absurd rfl (noB_mem h (List.mem_of_getElem? (Lib.occAt_head rfl ho)))
theorem idx_word {c : UInt8} {x r : List UInt8} (h : noB c x = true) : Lib.index (x ++ c :: r) [c] = x.length := by
  refine Lib.index_first (by simp) ?_ fun j hj => ?_
  · simp [Lib.occAt]
  · cases ho : Lib.occAt (x ++ c :: r) [c] j with
    | false => rfl
    | true =>
      have h1 := Lib.occAt_head rfl ho
      rw [List.getElem?_append_left hj] at h1
      exact absurd rfl (noB_mem h (List.mem_of_getElem? h1))
theorem join2 (a b : List UInt8) (t : List (List UInt8)) : Lib.join (a :: b :: t) [32] = a ++ 32 :: Lib.join (b :: t) [32] := by
  simp [Lib.join_cons, Lib.joinTail]
theorem wordsOf_join : ∀ (w : List UInt8) (ws : List (List UInt8)), (∀ x ∈ w :: ws, noB 32 x = true) → wordsOf (Lib.join (w :: ws) [32]) = w :: ws
  | w, [], h => by
    rw [Lib.join_one, wordsOf, Lib.count_miss (idx_none (h w (by simp)))]
    rfl
  | w, v :: ws, h => by
    have hw := h w (by simp)
    have ih := wordsOf_join v ws fun x hx => h x (by simp only [List.mem_cons] at hx ⊢; exact .inr hx)
    rw [join2]
    unfold wordsOf at ih ⊢
    rw [Lib.count_hit (by simp) (idx_word hw)]
    have hdr : List.drop (w.length + [(32 : UInt8)].length) (w ++ 32 :: Lib.join (v :: ws) [32]) = Lib.join (v :: ws) [32] := by
      rw [List.drop_append]; simp
    rw [hdr, Nat.add_comm 1, Lib.splitK]
    simp only [idx_word hw]
    rw [if_neg (by simp)]
    have hdr' := hdr
    simp only [Int.toNat_natCast, Nat.add_zero, List.take_left'] at hdr' ⊢
    rw [hdr', ih]
/-- Words as the reference cuts them. -/
def stepW (out : List (List UInt8)) (b : UInt8) : List (List UInt8) := if b = 32 then out ++ [[]] else out.dropLast ++ [out.getLastD [] ++ [b]]
def wordsR (l : List UInt8) : List (List UInt8) := l.foldl stepW [[]]
theorem stepW_in (acc : List (List UInt8)) (u : List UInt8) {b : UInt8} (h : b ≠ 32) : stepW (acc ++ [u]) b = acc ++ [u ++ [b]] := by
  unfold stepW
  rw [if_neg h, List.dropLast_concat, List.getLastD_concat]
theorem stepW_word (acc : List (List UInt8)) : ∀ (w u : List UInt8), noB 32 w = true → w.foldl stepW (acc ++ [u]) = acc ++ [u ++ w]
  | [], u, _ => by simp
  | b :: w, u, h => by
    have h' := h
    unfold noB at h
    rw [List.all_cons, Bool.and_eq_true] at h
    rw [List.foldl_cons, stepW_in acc u (noB_mem h' (by simp)), stepW_word acc w (u ++ [b]) h.2]
    simp
theorem wordsR_join' : ∀ (w : List UInt8) (ws : List (List UInt8)) (acc : List (List UInt8)), (∀ x ∈ w :: ws, noB 32 x = true) → (Lib.join (w :: ws) [32]).foldl stepW (acc ++ [[]]) = acc ++ (w :: ws)
  | w, [], acc, h => by
    rw [Lib.join_one, stepW_word acc w [] (h w (by simp))]
    simp
  | w, v :: ws, acc, h => by
    rw [join2, List.foldl_append, stepW_word acc w [] (h w (by simp)), List.nil_append, List.foldl_cons]
    have e : stepW (acc ++ [w]) 32 = (acc ++ [w]) ++ [[]] := by unfold stepW; rw [if_pos rfl]
    rw [e, wordsR_join' v ws (acc ++ [w]) fun x hx => h x (by simp only [List.mem_cons] at hx ⊢; exact .inr hx)]
    simp
theorem wordsR_join (w : List UInt8) (ws : List (List UInt8)) (h : ∀ x ∈ w :: ws, noB 32 x = true) : wordsR (Lib.join (w :: ws) [32]) = w :: ws := wordsR_join' w ws [] h
theorem cut_second {a r : List UInt8} {c d : UInt8} (h : noB d a = true) (hcd : c ≠ d) : Lib.cut (a ++ c :: d :: r) [c, d] = (a, r, true) := by
  have hi : Lib.index (a ++ c :: d :: r) [c, d] = a.length := by
    refine Lib.index_first (by simp) (by simp [Lib.occAt]) fun j hj => ?_
    cases ho : Lib.occAt (a ++ c :: d :: r) [c, d] j with
    | false => rfl
    | true =>
      have h1 := Lib.occAt_second rfl ho
      rcases Nat.lt_or_ge (j + 1) a.length with h2 | h2
      · rw [List.getElem?_append_left h2] at h1
        exact absurd rfl (noB_mem h (List.mem_of_getElem? h1))
      · rw [show j + 1 = a.length by omega] at h1
        rw [List.getElem?_append_right (Nat.le_refl _), Nat.sub_self] at h1
        simp at h1
        exact absurd h1 hcd
  unfold Lib.cut
  rw [hi, if_pos (by omega)]
  simp
theorem cut_first {a r : List UInt8} {c d : UInt8} (h : noB c a = true) : Lib.cut (a ++ c :: d :: r) [c, d] = (a, r, true) := by
  have hi : Lib.index (a ++ c :: d :: r) [c, d] = a.length := by
    refine Lib.index_first (by simp) (by simp [Lib.occAt]) fun j hj => ?_
    cases ho : Lib.occAt (a ++ c :: d :: r) [c, d] j with
    | false => rfl
    | true =>
      have h1 := Lib.occAt_head rfl ho
      rw [List.getElem?_append_left hj] at h1
      exact absurd rfl (noB_mem h (List.mem_of_getElem? h1))
  unfold Lib.cut
  rw [hi, if_pos (by omega)]
  simp
/-! numbers -/
theorem itoa_noB {n : Int} (h : 0 ≤ n) (c : UInt8) (hc : isDig c = false) : noB c (Lib.itoa n) = true := by
  unfold noB
  rw [List.all_eq_true]
  intro b hb
  have := List.all_eq_true.1 (itoa_digs h).1 b hb
  simp only [bne_iff_ne, ne_eq]
  rintro rfl
  rw [this] at hc; cases hc
theorem itoa_len10 {n : Int} (h0 : 0 ≤ n) (h1 : n ≤ 9999999999) : (Lib.itoa n).length ≤ 10 := by
  rw [Lib.itoa, if_neg (by omega), Lib.decDigits_length]
  exact nDigits_le 10 _ (by omega) (by omega)
theorem atoiAll_itoa10 {n : Int} (h0 : 0 ≤ n) (h1 : n ≤ 9999999999) : Lib.atoiAll (Lib.itoa n) = .ok n := by
  have ⟨hd, hv, hne⟩ := itoa_digs h0
  have h4 := itoa_len10 h0 h1
  rw [Lib.atoiAll_short _ (by omega)]
  have hf := decFrom_dv _ 0 hd
  cases hx : Lib.itoa n with
  | nil => exact absurd hx hne
  | cons b r =>
    rw [hx] at hd hv hf
    have hb : isDig b = true := by simp only [List.all_cons, Bool.and_eq_true] at hd; exact hd.1
    simp only [isDig, Bool.and_eq_true, decide_eq_true_eq] at hb
    have e1 : (b == 45) = false := by rw [beq_eq_false_iff_ne]; rintro rfl; simp at hb
    have e2 : (b == 43) = false := by rw [beq_eq_false_iff_ne]; rintro rfl; simp at hb
    simp only [Lib.atoi, e1, e2, Lib.decNat, List.isEmpty_cons]
    simp only [Bool.false_eq_true, if_false]
    rw [hf]
    unfold dv at hv
    show Lib.NumEnd.ok ((dvF 0 (b :: r) : Nat) : Int) = _
    exact congrArg _ hv
/-- What Atoi gives for a word, a number or not. -/
def atoiV (w : List UInt8) : Int := match Lib.atoiAll w with
  | .ok v => v
  | .range => Lib.atoiSat w
  | _ => 0
theorem atoiV_itoa {n : Int} (h0 : 0 ≤ n) (h1 : n ≤ 9999999999) : atoiV (Lib.itoa n) = n := by unfold atoiV; rw [atoiAll_itoa10 h0 h1]
/-- The reference's numbers. -/
def numW (w : List UInt8) : Int := if w.all isDig = true ∧ w.length ≤ 10 ∧ w ≠ [] ∧ Lib.itoa (dv w) = w then (dv w : Int) else -1
theorem numW_itoa {n : Int} (h0 : 0 ≤ n) (h1 : n ≤ 9999999999) : numW (Lib.itoa n) = n := by
  have ⟨hd, hv, hne⟩ := itoa_digs h0
  unfold numW
  rw [hv, if_pos ⟨hd, itoa_len10 h0 h1, hne, rfl⟩]
/-! events -/
def wAction : List UInt8 := [97, 99, 116, 105, 111, 110]
def wPlace : List UInt8 := [112, 108, 97, 99, 101]
def wSerial : List UInt8 := [115, 101, 114, 105, 97, 108]
def wNote : List UInt8 := [110, 111, 116, 101]
def wGive : List UInt8 := [103, 105, 118, 101]
def wRow : List UInt8 := [114, 111, 119]
def wShare : List UInt8 := [115, 104, 97, 114, 101]
def wTo : List UInt8 := [116, 111]
def headW (e : Ev) : List (List UInt8) := [Lib.itoa e.r, Lib.itoa e.n, Lib.itoa e.t]
def tailW (e : Ev) : List (List UInt8) :=
  if e.k = 0 then [wAction, Lib.itoa e.a, wPlace, Lib.itoa e.pl, wSerial, Lib.itoa e.se]
  else if e.k = 2 then [wNote, wPlace, Lib.itoa e.pl, wSerial, Lib.itoa e.se]
  else [wGive, (if e.gk = 1 then wShare else wRow), Lib.itoa e.gi, Lib.itoa e.ge, Lib.itoa e.ga, wTo, Lib.itoa e.to]
theorem tailW_cons (e : Ev) : ∃ a t, tailW e = a :: t := by
  unfold tailW
  split
  · exact ⟨_, _, rfl⟩
  · split
    · exact ⟨_, _, rfl⟩
    · exact ⟨_, _, rfl⟩
/-- The text of an event. -/
def fmtE (e : Ev) : List UInt8 := if formB e then Lib.join (headW e ++ fmtS e.past :: tailW e) [32] else []
/-- What the ranges of a formed event are. -/
structure Rng (e : Ev) : Prop where
  vp : validB e.past = true
  r0 : 0 ≤ e.r
  r1 : e.r ≤ 9999
  n0 : 0 ≤ e.n
  n1 : e.n ≤ 9999
  t0 : 0 ≤ e.t
  t1 : e.t ≤ 9999999999
  k : e.k = 0 ∨ e.k = 1 ∨ e.k = 2
  k0 : e.k = 0 → (0 ≤ e.a ∧ e.a ≤ 255 ∧ 0 ≤ e.pl ∧ e.pl ≤ 1024 ∧ 0 ≤ e.se ∧ e.se ≤ 1048576) ∧ e.gk = 0 ∧ e.gi = 0 ∧ e.ge = 0 ∧ e.ga = 0 ∧ e.to = 0
  k2 : e.k = 2 → (0 ≤ e.pl ∧ e.pl ≤ 1024 ∧ 0 ≤ e.se ∧ e.se ≤ 1048576) ∧ e.a = 0 ∧ e.gk = 0 ∧ e.gi = 0 ∧ e.ge = 0 ∧ e.ga = 0 ∧ e.to = 0
  k1 : e.k = 1 → ((e.gk = 0 ∨ e.gk = 1) ∧ 0 ≤ e.gi ∧ e.gi ≤ 1023 ∧ 0 ≤ e.ge ∧ e.ge ≤ 5 ∧ 0 ≤ e.ga ∧ e.ga ≤ 1000000 ∧ 0 ≤ e.to ∧ e.to ≤ 9999) ∧ e.a = 0 ∧ e.pl = 0 ∧ e.se = 0
theorem rng_of {e : Ev} (h : formB e = true) : Rng e := by
  unfold formB at h
  rw [Bool.and_eq_true] at h
  obtain ⟨hh, hk⟩ := h
  simp only [headOk, betB, Bool.and_eq_true, decide_eq_true_eq] at hh
  obtain ⟨hv, ⟨hr0, hr1⟩, hn, hn1, ht0, ht1⟩ := hh
  have hpl : e.past.length ≤ 5 := by simp [validB] at hv; omega
  have hrl : e.r.toNat < e.past.length := by omega
  obtain ⟨x, hx⟩ : ∃ x, e.past[e.r.toNat]? = some x := ⟨e.past[e.r.toNat], List.getElem?_eq_getElem hrl⟩
  have hx0 := ok1_at hv hx
  rw [getD_get hx] at hn
  refine ⟨hv, hr0, by omega, by omega, by omega, by omega, by omega, ?_, fun h0 => ?_, fun h2 => ?_, fun h1 => ?_⟩
  · by_cases h0 : e.k = 0
    · exact .inl h0
    · by_cases h1 : e.k = 1
      · exact .inr (.inl h1)
      · by_cases h2 : e.k = 2
        · exact .inr (.inr h2)
        · simp [h0, h1, h2] at hk
  · rw [if_pos h0] at hk
    simp only [actF, giveZ, betB, Bool.and_eq_true, decide_eq_true_eq] at hk
    omega
  · rw [if_neg (by omega), if_neg (by omega), if_pos h2] at hk
    simp only [noteF, giveZ, betB, Bool.and_eq_true, decide_eq_true_eq] at hk
    omega
  · rw [if_neg (by omega), if_pos h1] at hk
    simp only [giveF, betB, Bool.and_eq_true, decide_eq_true_eq] at hk
    have hge : e.ge ≤ 5 := by
      have := hk.1.1.1.1.1.2.2
      split at this <;> omega
    omega
theorem fmtE_eq {e : Ev} (h : formB e = true) : fmtE e = Lib.join (headW e) [32] ++ 32 :: 91 :: (numsT e.past ++ 93 :: 32 :: Lib.join (tailW e) [32]) := by
  have hv := (rng_of h).vp
  have hf : fmtS e.past = 91 :: (numsT e.past ++ [93]) := by simp [fmtS, hv]
  unfold fmtE
  rw [if_pos h, hf]
  have ht := tailW_cons e
  obtain ⟨a, t, ht⟩ := ht
  rw [ht]
  show Lib.join (_ :: _ :: _ :: _ :: a :: t) [32] = Lib.join [_, _, _] [32] ++ _
  rw [join2, join2, join2, join2, join2, join2, Lib.join_one]
  simp
theorem tailW_noB {e : Ev} (h : formB e = true) : ∀ x ∈ tailW e, noB 32 x = true := by
  have hr := rng_of h
  have hi : ∀ n : Int, 0 ≤ n → noB 32 (Lib.itoa n) = true := fun n hn => itoa_noB hn 32 (by decide)
  intro x hx
  unfold tailW at hx
  split at hx
  · rename_i h0
    have := hr.k0 h0
    simp only [List.mem_cons, List.not_mem_nil, or_false] at hx
    rcases hx with rfl | rfl | rfl | rfl | rfl | rfl
    · decide
    · exact hi _ (by omega)
    · decide
    · exact hi _ (by omega)
    · decide
    · exact hi _ (by omega)
  · split at hx
    · rename_i h2
      have := hr.k2 h2
      simp only [List.mem_cons, List.not_mem_nil, or_false] at hx
      rcases hx with rfl | rfl | rfl | rfl | rfl
      · decide
      · decide
      · exact hi _ (by omega)
      · decide
      · exact hi _ (by omega)
    · rename_i h0 h2
      have := hr.k1 (by have := hr.k; omega)
      simp only [List.mem_cons, List.not_mem_nil, or_false] at hx
      rcases hx with rfl | rfl | rfl | rfl | rfl | rfl | rfl
      · decide
      · split <;> decide
      · exact hi _ (by omega)
      · exact hi _ (by omega)
      · exact hi _ (by omega)
      · decide
      · exact hi _ (by omega)
theorem headW_noB {e : Ev} (h : formB e = true) : ∀ x ∈ headW e, noB 32 x = true := by
  have hr := rng_of h
  intro x hx
  simp only [headW, List.mem_cons, List.not_mem_nil, or_false] at hx
  rcases hx with rfl | rfl | rfl
  · exact itoa_noB hr.r0 32 (by decide)
  · exact itoa_noB hr.n0 32 (by decide)
  · exact itoa_noB hr.t0 32 (by decide)
theorem head_noB {e : Ev} (h : formB e = true) (c : UInt8) (hc : isDig c = false) (h32 : c ≠ 32) : noB c (Lib.join (headW e) [32]) = true := by
  have hr := rng_of h
  have : ((32 : UInt8) != c) = true := by simp; exact fun e => h32 e.symm
  unfold headW
  rw [join2, join2, Lib.join_one, noB_app, noB_cons, noB_app, noB_cons, itoa_noB hr.r0 c hc, itoa_noB hr.n0 c hc, itoa_noB hr.t0 c hc, this]
  rfl
theorem nums_noB {c : UInt8} (hc : isDig c = false) (h32 : c ≠ 32) : ∀ {l : List Int}, l.all ok1 = true → noB c (numsT l) = true
  | [], _ => rfl
  | [n], h => by
    simp only [List.all_cons, Bool.and_eq_true] at h
    rw [numsT_one]; exact itoa_noB (ok1_of h.1).1 c hc
  | n :: m :: t, h => by
    rw [List.all_cons, Bool.and_eq_true] at h
    have : ((32 : UInt8) != c) = true := by simp; exact fun e => h32 e.symm
    rw [numsT_cons2, noB_app, noB_cons, itoa_noB (ok1_of h.1).1 c hc, nums_noB hc h32 h.2, this]
    rfl
/-! the code's reading -/
def at0 (l : List Int) (k : Nat) : Int := l.getD k 0
def tailC (ws : List (List UInt8)) : Ev :=
  if ws.length = 6 ∧ ws.getD 0 [] = wAction then ⟨0, 0, 0, [], 0, at0 (ws.map atoiV) 1, 0, 0, 0, 0, 0, at0 (ws.map atoiV) 3, at0 (ws.map atoiV) 5⟩
  else if ws.length = 5 ∧ ws.getD 0 [] = wNote then ⟨0, 0, 0, [], 2, 0, 0, 0, 0, 0, 0, at0 (ws.map atoiV) 2, at0 (ws.map atoiV) 4⟩
  else if ws.length = 7 ∧ ws.getD 0 [] = wGive then ⟨0, 0, 0, [], 1, 0, (if ws.getD 1 [] = wShare then 1 else 0), at0 (ws.map atoiV) 2, at0 (ws.map atoiV) 3, at0 (ws.map atoiV) 4, at0 (ws.map atoiV) 6, 0, 0⟩
  else ⟨0, 0, 0, [], 0, 0, 0, 0, 0, 0, 0, 0, 0⟩
/-- The event that the code reads, before it compares. -/
def evrC (s : List UInt8) (c : List Int) : Ev :=
  let f := (wordsOf (Lib.cut s [32, 91]).1).map atoiV
  let t := tailC (wordsOf (Lib.cut (Lib.cut s [32, 91]).2.1 [93, 32]).2.1)
  { t with r := at0 f 0, n := at0 f 1, t := at0 f 2, past := c }
def parC (s : List UInt8) : Option Ev :=
  match clkP (91 :: ((Lib.cut (Lib.cut s [32, 91]).2.1 [93, 32]).1 ++ [93])) with
  | none => none
  | some c => if (Lib.cut s [32, 91]).2.2 = true ∧ (Lib.cut (Lib.cut s [32, 91]).2.1 [93, 32]).2.2 = true ∧ (wordsOf (Lib.cut s [32, 91]).1).length = 3 ∧ fmtE (evrC s c) = s then some (evrC s c) else none
theorem cut_nil (sep : List UInt8) (h : sep ≠ []) : (Lib.cut [] sep).2.2 = false := by
  have : Lib.index [] sep = -1 := by
    cases sep with
    | nil => exact absurd rfl h
    | cons a t => rfl
  unfold Lib.cut
  rw [this]
  rfl
theorem tailC_eq {e : Ev} (h : formB e = true) : tailC (tailW e) = ⟨0, 0, 0, [], e.k, e.a, e.gk, e.gi, e.ge, e.ga, e.to, e.pl, e.se⟩ := by
  have hr := rng_of h
  unfold tailW
  split
  · rename_i h0
    have := hr.k0 h0
    unfold tailC
    rw [if_pos ⟨rfl, rfl⟩]
    simp only [at0, List.map_cons, List.map_nil, List.getD_cons_succ, List.getD_cons_zero]
    rw [atoiV_itoa (by omega) (by omega), atoiV_itoa (by omega) (by omega), atoiV_itoa (by omega) (by omega)]
    simp [h0, this]
  · split
    · rename_i h2
      have := hr.k2 h2
      unfold tailC
      rw [if_neg (by simp), if_pos ⟨rfl, rfl⟩]
      simp only [at0, List.map_cons, List.map_nil, List.getD_cons_succ, List.getD_cons_zero]
      rw [atoiV_itoa (by omega) (by omega), atoiV_itoa (by omega) (by omega)]
      simp [h2, this]
    · rename_i h0 h2
      have h1 : e.k = 1 := by have := hr.k; omega
      have := hr.k1 h1
      unfold tailC
      rw [if_neg (by simp), if_neg (by simp), if_pos ⟨rfl, rfl⟩]
      simp only [at0, List.map_cons, List.map_nil, List.getD_cons_succ, List.getD_cons_zero]
      rw [atoiV_itoa (by omega) (by omega), atoiV_itoa (by omega) (by omega), atoiV_itoa (by omega) (by omega), atoiV_itoa (by omega) (by omega)]
      have hg : (if (if e.gk = 1 then wShare else wRow) = wShare then (1 : Int) else 0) = e.gk := by
        rcases this.1.1 with hg | hg
        · rw [hg]; decide
        · rw [hg]; decide
      rw [hg]
      simp [h1, this]
theorem parC_iff (s : List UInt8) (e : Ev) : parC s = some e ↔ formB e = true ∧ fmtE e = s := by
  constructor
  · intro h
    unfold parC at h
    split at h
    · cases h
    · split at h
      · rename_i c _ hc
        cases h
        refine ⟨?_, hc.2.2.2⟩
        cases hf : formB (evrC s c) with
        | true => rfl
        | false =>
          have h0 : s = [] := by rw [← hc.2.2.2, fmtE, hf]; rfl
          have := hc.1
          rw [h0, cut_nil _ (by simp)] at this
          cases this
      · cases h
  · rintro ⟨hf, rfl⟩
    have hr := rng_of hf
    have hok : e.past.all ok1 = true := by have := hr.vp; simp only [validB, Bool.and_eq_true] at this; exact this.1.1
    have e1 : Lib.cut (fmtE e) [32, 91] = (Lib.join (headW e) [32], numsT e.past ++ 93 :: 32 :: Lib.join (tailW e) [32], true) := by
      rw [fmtE_eq hf]
      exact cut_second (head_noB hf 91 (by decide) (by decide)) (by decide)
    have e2 : Lib.cut (numsT e.past ++ 93 :: 32 :: Lib.join (tailW e) [32]) [93, 32] = (numsT e.past, Lib.join (tailW e) [32], true) := cut_first (nums_noB (by decide) (by decide) hok)
    have hck : clkP (91 :: (numsT e.past ++ [93])) = some e.past := (clkP_iff _ _).2 ⟨hr.vp, by simp [fmtS, hr.vp]⟩
    have hw : wordsOf (Lib.join (headW e) [32]) = headW e := wordsOf_join _ _ (headW_noB hf)
    have hw2 : wordsOf (Lib.join (tailW e) [32]) = tailW e := by
      have ht := tailW_cons e
      obtain ⟨a, t, ht⟩ := ht
      have := tailW_noB hf
      rw [ht] at this ⊢
      exact wordsOf_join _ _ this
    have hev : evrC (fmtE e) e.past = e := by
      unfold evrC
      simp only [e1, e2, hw, hw2, tailC_eq hf]
      simp only [headW, at0, List.map_cons, List.map_nil, List.getD_cons_succ, List.getD_cons_zero]
      rw [atoiV_itoa hr.r0 (by have := hr.r1; omega), atoiV_itoa hr.n0 (by have := hr.n1; omega), atoiV_itoa hr.t0 hr.t1]
    unfold parC
    simp only [e1, e2, hck, hev]
    rw [if_pos ⟨trivial, trivial, by rw [hw]; rfl, trivial⟩]
end Go.Proofs.YtgbfedgghjcdcaaGreatDoor
