/- Law 32: the reference's reading of an event; EventTexts. No condition. -/
import Derived.Test.YtgbfedgghjcdcaaGreatDoorEG
import Derived.Test.YtgbfedgghjcdcaaGreatDoorYF
namespace Go.Proofs.YtgbfedgghjcdcaaGreatDoor
set_option linter.unusedSimpArgs false
set_option linter.unusedVariables false
set_option linter.unusedSectionVars false
open Go.RowKit
set_option maxRecDepth 100000
set_option maxHeartbeats 32000000

theorem pos_lt_ne {c : UInt8} : ∀ {l : List UInt8} {k : Nat} {b : UInt8}, k < pos c l → l[k]? = some b → b ≠ c
  | [], k, b, h, _ => by simp [pos] at h
  | x :: l, k, b, h, hb => by
    unfold pos at h
    rw [List.takeWhile_cons] at h
    split at h
    · rename_i hx
      cases k with
      | zero => cases hb; simpa using hx
      | succ k => exact pos_lt_ne (l := l) (k := k) (by simp at h; unfold pos; omega) hb
    · simp at h
theorem pos_get {c : UInt8} : ∀ {l : List UInt8}, pos c l < l.length → l[pos c l]? = some c
  | [], h => by simp at h
  | x :: l, h => by
    unfold pos at h ⊢
    rw [List.takeWhile_cons] at h ⊢
    split at h
    · rename_i hx
      rw [if_pos hx]
      have := pos_get (c := c) (l := l) (by unfold pos; simp at h; omega)
      unfold pos at this
      simpa using this
    · rename_i hx
      rw [if_neg hx]
      simp at hx ⊢
      exact hx
/-- Where a bracket was met so far. -/
def opn (c : UInt8) (l : List UInt8) (q : Nat) : Int := if pos c l < q then (pos c l : Int) else -1
theorem opn_hit {c b : UInt8} {l : List UInt8} {q : Nat} (hb : l[q]? = some b) (h : b = c) (ho : opn c l q < 0) : opn c l (q + 1) = q := by
  subst h
  unfold opn at ho ⊢
  split at ho
  · omega
  · rename_i hn
    rcases Nat.lt_or_ge q (pos b l) with h1 | h1
    · exact absurd rfl (pos_lt_ne h1 hb)
    · have : pos b l = q := by omega
      rw [this, if_pos (by omega)]
theorem opn_miss {c b : UInt8} {l : List UInt8} {q : Nat} (hb : l[q]? = some b) (h : ¬ (b = c ∧ opn c l q < 0)) : opn c l (q + 1) = opn c l q := by
  unfold opn at h ⊢
  split
  · rename_i h1
    split
    · rfl
    · rename_i h2
      have hq : pos c l = q := by omega
      have := pos_get (c := c) (l := l) (by rw [hq]; exact lt_of_get hb)
      rw [hq, hb] at this
      cases this
      rw [if_neg h2] at h
      exact absurd ⟨rfl, by omega⟩ h
  · rw [if_neg (by omega)]
def parER : Option Ev → SV × Fr
  | some e => (.tup [evSv e (.ls 0), .t (.int .i64 0)], [.row false false 1 (intsE e.past)])
  | none => (.tup [.t (evA evZ0), .t (.int .i64 3)], [])
theorem fmtE_past {e : Ev} (h : e.past = []) : fmtE e = [] := by
  unfold fmtE
  rw [if_neg]
  intro hf
  have := (rng_of hf).vp
  rw [h] at this
  cases this
section
variable {α : Type} {W : List α}
theorem len4 (h : W.length = 4) : ∃ a0 a1 a2 a3, W = [a0, a1, a2, a3] := match W, h with | [a0, a1, a2, a3], _ => ⟨a0, a1, a2, a3, rfl⟩
theorem len6 (h : W.length = 6) : ∃ a0 a1 a2 a3 a4 a5, W = [a0, a1, a2, a3, a4, a5] := match W, h with | [a0, a1, a2, a3, a4, a5], _ => ⟨a0, a1, a2, a3, a4, a5, rfl⟩
theorem len7 (h : W.length = 7) : ∃ a0 a1 a2 a3 a4 a5 a6, W = [a0, a1, a2, a3, a4, a5, a6] := match W, h with | [a0, a1, a2, a3, a4, a5, a6], _ => ⟨a0, a1, a2, a3, a4, a5, a6, rfl⟩
theorem len8 (h : W.length = 8) : ∃ a0 a1 a2 a3 a4 a5 a6 a7, W = [a0, a1, a2, a3, a4, a5, a6, a7] := match W, h with | [a0, a1, a2, a3, a4, a5, a6, a7], _ => ⟨a0, a1, a2, a3, a4, a5, a6, a7, rfl⟩
end
theorem refP_len {l : List UInt8} {c : List Int} (h : refP l = some c) : c.length ≤ 1000 := by
  rw [refP_clkP] at h
  have := ((clkP_iff l c).1 h).1
  simp [validB] at this
  omega
end Go.Proofs.YtgbfedgghjcdcaaGreatDoor
