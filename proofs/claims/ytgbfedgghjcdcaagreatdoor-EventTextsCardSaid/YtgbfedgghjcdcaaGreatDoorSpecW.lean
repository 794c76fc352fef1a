/- The texts of events, in plain Lean: the reference's reading. No condition. -/
import Derived.Test.YtgbfedgghjcdcaaGreatDoorSpecV
namespace Go.Proofs.YtgbfedgghjcdcaaGreatDoor
set_option linter.unusedSimpArgs false
set_option linter.unusedVariables false
set_option linter.unusedSectionVars false
open Go

/-- Where a byte stands first; the length if nowhere. -/
def pos (c : UInt8) (s : List UInt8) : Nat := (s.takeWhile fun b => b != c).length
theorem pos_at {c : UInt8} : ∀ {a r : List UInt8}, noB c a = true → pos c (a ++ c :: r) = a.length
  | [], r, _ => by simp [pos]
  | b :: a, r, h => by
    rw [noB_cons, Bool.and_eq_true] at h
    have := pos_at (r := r) h.2
    unfold pos at this ⊢
    rw [List.cons_append, List.takeWhile_cons, if_pos h.1, List.length_cons, this, List.length_cons]
theorem pos_le {c : UInt8} (s : List UInt8) : pos c s ≤ s.length := (List.takeWhile_sublist _).length_le
def tailR (ws : List (List UInt8)) : Ev :=
  if ws.getD 1 [] = wAction ∧ ws.length = 7 then ⟨0, 0, 0, [], 0, numW (ws.getD 2 []), 0, 0, 0, 0, 0, numW (ws.getD 4 []), numW (ws.getD 6 [])⟩
  else if ws.getD 1 [] = wNote ∧ ws.length = 6 then ⟨0, 0, 0, [], 2, 0, 0, 0, 0, 0, 0, numW (ws.getD 3 []), numW (ws.getD 5 [])⟩
  else if ws.getD 1 [] = wGive ∧ ws.length = 8 then ⟨0, 0, 0, [], 1, 0, (if ws.getD 2 [] = wShare then 1 else 0), numW (ws.getD 3 []), numW (ws.getD 4 []), numW (ws.getD 5 []), numW (ws.getD 7 []), 0, 0⟩
  else ⟨0, 0, 0, [], 0, 0, 0, 0, 0, 0, 0, 0, 0⟩
/-- The event that the reference reads, before it compares; o and e: where the brackets stand. -/
def evrR (s : List UInt8) (o e : Nat) : Ev :=
  { tailR (wordsR (s.drop (e + 1))) with r := numW ((wordsR (s.take o)).getD 0 []), n := numW ((wordsR (s.take o)).getD 1 []), t := numW ((wordsR (s.take o)).getD 2 []), past := (refP ((s.drop o).take (e + 1 - o))).getD [] }
def parE (s : List UInt8) : Option Ev :=
  if (1 ≤ pos 91 s ∧ pos 91 s ≤ pos 93 s ∧ pos 93 s + 2 ≤ s.length) ∧ (wordsR (s.take (pos 91 s))).length = 4 ∧ 6 ≤ (wordsR (s.drop (pos 93 s + 1))).length ∧ fmtE (evrR s (pos 91 s) (pos 93 s)) = s then some (evrR s (pos 91 s) (pos 93 s)) else none
theorem tailR_eq {e : Ev} (h : formB e = true) : tailR ([] :: tailW e) = ⟨0, 0, 0, [], e.k, e.a, e.gk, e.gi, e.ge, e.ga, e.to, e.pl, e.se⟩ := by
  have hr := rng_of h
  unfold tailW
  split
  · rename_i h0
    have := hr.k0 h0
    unfold tailR
    rw [if_pos ⟨rfl, rfl⟩]
    simp only [List.getD_cons_succ, List.getD_cons_zero]
    rw [numW_itoa (by omega) (by omega), numW_itoa (by omega) (by omega), numW_itoa (by omega) (by omega)]
    simp [h0, this]
  · split
    · rename_i h2
      have := hr.k2 h2
      unfold tailR
      rw [if_neg (by simp), if_pos ⟨rfl, rfl⟩]
      simp only [List.getD_cons_succ, List.getD_cons_zero]
      rw [numW_itoa (by omega) (by omega), numW_itoa (by omega) (by omega)]
      simp [h2, this]
    · rename_i h0 h2
      have h1 : e.k = 1 := by have := hr.k; omega
      have := hr.k1 h1
      unfold tailR
      rw [if_neg (by simp), if_neg (by simp), if_pos ⟨rfl, rfl⟩]
      simp only [List.getD_cons_succ, List.getD_cons_zero]
      rw [numW_itoa (by omega) (by omega), numW_itoa (by omega) (by omega), numW_itoa (by omega) (by omega), numW_itoa (by omega) (by omega)]
      have hg : (if (if e.gk = 1 then wShare else wRow) = wShare then (1 : Int) else 0) = e.gk := by
        rcases this.1.1 with hg | hg
        · rw [hg]; decide
        · rw [hg]; decide
      rw [hg]
      simp [h1, this]
theorem tailW_len (e : Ev) : 5 ≤ (tailW e).length := by
  unfold tailW
  split
  · simp
  · split <;> simp
theorem parE_iff (s : List UInt8) (e : Ev) : parE s = some e ↔ formB e = true ∧ fmtE e = s := by
  constructor
  · intro h
    unfold parE at h
    split at h
    · rename_i hc
      cases h
      refine ⟨?_, hc.2.2.2⟩
      cases hf : formB (evrR s (pos 91 s) (pos 93 s)) with
      | true => rfl
      | false =>
        have h0 : s = [] := by rw [← hc.2.2.2, fmtE, hf]; rfl
        have := hc.1.2.2
        rw [h0] at this
        simp at this
    · cases h
  · rintro ⟨hf, hs⟩
    have hr := rng_of hf
    have hok : e.past.all ok1 = true := by have := hr.vp; simp only [validB, Bool.and_eq_true] at this; exact this.1.1
    have hA1 := head_noB hf 91 (by decide) (by decide)
    have hA3 := head_noB hf 93 (by decide) (by decide)
    have hN := nums_noB (c := 93) (by decide) (by decide) hok
    obtain ⟨A, hA⟩ : ∃ A, Lib.join (headW e) [32] = A := ⟨_, rfl⟩
    obtain ⟨N, hNe⟩ : ∃ N, numsT e.past = N := ⟨_, rfl⟩
    obtain ⟨T, hT⟩ : ∃ T, Lib.join (tailW e) [32] = T := ⟨_, rfl⟩
    have hfm := fmtE_eq hf
    have hpf : fmtS e.past = 91 :: (N ++ [93]) := by simp [fmtS, hr.vp, hNe]
    rw [hA, hNe, hT] at hfm
    rw [hA] at hA1 hA3
    rw [hNe] at hN
    have hp1 : pos 91 s = A.length + 1 := by
      rw [← hs, hfm, show A ++ 32 :: 91 :: (N ++ 93 :: 32 :: T) = (A ++ [32]) ++ 91 :: (N ++ 93 :: 32 :: T) by simp, pos_at (by rw [noB_app, hA1]; decide)]
      simp
    have hp3 : pos 93 s = A.length + 2 + N.length := by
      rw [← hs, hfm, show A ++ 32 :: 91 :: (N ++ 93 :: 32 :: T) = (A ++ 32 :: 91 :: N) ++ 93 :: (32 :: T) by simp, pos_at (by rw [noB_app, noB_cons, noB_cons, hA3, hN]; decide)]
      simp; omega
    have hl : s.length = A.length + N.length + T.length + 4 := by rw [← hs, hfm]; simp; omega
    have t1 : s.take (A.length + 1) = Lib.join [Lib.itoa e.r, Lib.itoa e.n, Lib.itoa e.t, []] [32] := by
      have e1 : Lib.join [Lib.itoa e.r, Lib.itoa e.n, Lib.itoa e.t, []] [32] = A ++ [32] := by
        rw [← hA]
        unfold headW
        rw [join2, join2, join2, join2, join2, Lib.join_one, Lib.join_one]
        simp
      rw [e1, ← hs, hfm, show A ++ 32 :: 91 :: (N ++ 93 :: 32 :: T) = (A ++ [32]) ++ 91 :: (N ++ 93 :: 32 :: T) by simp]
      exact List.take_left' (by simp)
    have t2 : s.drop (A.length + 2 + N.length + 1) = Lib.join ([] :: tailW e) [32] := by
      have e1 : Lib.join ([] :: tailW e) [32] = 32 :: T := by
        obtain ⟨a, t, ht⟩ := tailW_cons e
        rw [← hT, ht, join2]
        rfl
      rw [e1, ← hs, hfm, show A ++ 32 :: 91 :: (N ++ 93 :: 32 :: T) = (A ++ 32 :: 91 :: (N ++ [93])) ++ 32 :: T by simp]
      exact List.drop_left' (by simp; omega)
    have t3 : (s.drop (A.length + 1)).take (A.length + 2 + N.length + 1 - (A.length + 1)) = fmtS e.past := by
      rw [hpf, ← hs, hfm, show A ++ 32 :: 91 :: (N ++ 93 :: 32 :: T) = (A ++ [32]) ++ ((91 :: (N ++ [93])) ++ 32 :: T) by simp, List.drop_left' (by simp)]
      exact List.take_left' (by simp; omega)
    have w1 : wordsR (s.take (A.length + 1)) = [Lib.itoa e.r, Lib.itoa e.n, Lib.itoa e.t, []] := by
      rw [t1]
      refine wordsR_join _ _ fun x hx => ?_
      simp only [List.mem_cons, List.not_mem_nil, or_false] at hx
      rcases hx with rfl | rfl | rfl | rfl
      · exact itoa_noB hr.r0 32 (by decide)
      · exact itoa_noB hr.n0 32 (by decide)
      · exact itoa_noB hr.t0 32 (by decide)
      · rfl
    have w2 : wordsR (s.drop (A.length + 2 + N.length + 1)) = [] :: tailW e := by
      rw [t2]
      refine wordsR_join _ _ fun x hx => ?_
      rcases List.mem_cons.1 hx with rfl | hx
      · rfl
      · exact tailW_noB hf x hx
    have hev : evrR s (A.length + 1) (A.length + 2 + N.length) = e := by
      have hrp : refP (fmtS e.past) = some e.past := (refP_iff _ _).2 ⟨hr.vp, rfl⟩
      unfold evrR
      rw [w1, w2, t3, hrp, tailR_eq hf]
      simp only [List.getD_cons_succ, List.getD_cons_zero, Option.getD_some]
      rw [numW_itoa hr.r0 (by have := hr.r1; omega), numW_itoa hr.n0 (by have := hr.n1; omega), numW_itoa hr.t0 hr.t1]
    unfold parE
    rw [hp1, hp3, hev, w1, w2, if_pos ⟨⟨by omega, by omega, by omega⟩, rfl, by have := tailW_len e; simp; omega, hs⟩]
theorem parC_parE (s : List UInt8) : parC s = parE s := by
  cases h : parE s with
  | some e => exact (parC_iff s e).2 ((parE_iff s e).1 h)
  | none =>
    cases h' : parC s with
    | none => rfl
    | some e =>
      have := (parE_iff s e).2 ((parC_iff s e).1 h')
      rw [this] at h; cases h
end Go.Proofs.YtgbfedgghjcdcaaGreatDoor
