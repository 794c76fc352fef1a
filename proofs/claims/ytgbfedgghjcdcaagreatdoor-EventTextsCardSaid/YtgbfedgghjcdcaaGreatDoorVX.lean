/- The tree evaluator, 27: texts read byte by byte; numbers of other kinds. No condition. -/
import Derived.Test.YtgbfedgghjcdcaaGreatDoorTC
namespace Go.Proofs.YtgbfedgghjcdcaaGreatDoor
set_option linter.unusedSimpArgs false
set_option linter.unusedVariables false
set_option linter.unusedSectionVars false
open Go.RowKit
section
variable {g : Cfg} {d : Option (List Nat)} {i' : Nat} {env : Env} {fr : Fr}
/-- One byte of a text. -/
theorem OpR.six {t : Nat} {x i : Operand} {k : IntKind} {m : Int} {s : ByteArray} {b : UInt8} (hx : rd env x = .t (.str s)) (hi : rd env i = .t (.int k m)) (hst : isStrT g.P t = true) (h0 : 0 ≤ m) (hb : s.data.toList[m.toNat]? = some b) : OpR g d i' env fr (.index t x i) (.t (.int .u8 (b.toNat : Int))) fr [] := .p rfl rfl (by
  have h1 : s[m.toNat]? = some b := by
    rw [← hb]
    obtain ⟨⟨l⟩⟩ := s
    show (if h : _ then _ else _) = _
    rcases Nat.lt_or_ge m.toNat l.length with h | h
    · rw [dif_pos (by simpa [ByteArray.size] using h)]
      simp only [List.getElem?_eq_getElem h]
      rfl
    · rw [dif_neg (by simpa [ByteArray.size] using h)]
      simp [List.getElem?_eq_none h]
  unfold evP indexS
  simp only [hx, hi, hst, decide_eq_true h0, h1])
/-- A piece of a text, to its end. -/
theorem OpR.slo {t : Nat} {x lo : Operand} {k : IntKind} {m : Int} {s v : ByteArray} (hst : isStrT g.P t = true) (hx : rd env x = .t (.str s)) (hl : rd env lo = .t (.int k m)) (h0 : 0 ≤ m) (hls : m.toNat ≤ s.size) (hv : s.extract m.toNat s.size = v) : OpR g d i' env fr (.slice t x (some lo) none none) (.t (.str v)) fr [] := .p rfl rfl (by
  subst hv
  obtain ⟨l, rfl⟩ := Int.eq_ofNat_of_zero_le h0
  rw [Int.toNat_natCast] at hls ⊢
  have h2 : (decide (0 ≤ (l : Int)) && Nat.ble (Int.toNat (l : Int)) s.size) = true := by simp; omega
  have hb2 : boundS (some (.t (.int k (l : Int)))) 0 s.size = some l := by unfold boundS; simp only [h2]; simp
  have hb1 : boundS none s.size s.size = some s.size := rfl
  unfold evP sliceS
  simp only [Option.map_none, Option.map_some, hx, hl, hst]
  unfold cutS
  simp only [hb1, hb2])
/-- A piece of a text, from its beginning. -/
theorem OpR.shi {t h : Nat} {x hi : Operand} {k : IntKind} {s v : ByteArray} (hst : isStrT g.P t = true) (hx : rd env x = .t (.str s)) (hh : rd env hi = .t (.int k (h : Int))) (hhs : h ≤ s.size) (hv : s.extract 0 h = v) : OpR g d i' env fr (.slice t x none (some hi) none) (.t (.str v)) fr [] := .p rfl rfl (by
  subst hv
  have h1 : (decide (0 ≤ (h : Int)) && Nat.ble (Int.toNat (h : Int)) s.size) = true := by simp; omega
  have hb1 : boundS (some (.t (.int k (h : Int)))) s.size s.size = some h := by unfold boundS; simp only [h1]; simp
  have hb2 : boundS none 0 h = some 0 := by unfold boundS; rfl
  unfold evP sliceS
  simp only [Option.map_none, Option.map_some, hx, hh, hst]
  unfold cutS
  simp only [hb1, hb2])
theorem OpR.sub8 {xt yt : TypeId} {x y : Operand} {m n : Int} (hx : rd env x = .t (.int .u8 m)) (hy : rd env y = .t (.int .u8 n)) (h : 0 ≤ m - n ∧ m - n ≤ 255) : OpR g d i' env fr (.binOp .sub xt x y yt) (.t (.int .u8 (m - n))) fr [] :=
  .bin hx hy (by unfold binS; simp only [if_true, intS, IntWalk.u8_in _ h])
/-- A number told in the kind of int. -/
theorem OpR.cvi {src dst : Nat} {k : IntKind} {x : Operand} {m : Int} {ds : TypeDesc} (hx : rd env x = .t (.int k m)) (hs : g.P.underlying src = some ds) (hd : g.P.underlying dst = some (.int .i64)) (h : -9223372036854775808 ≤ m ∧ m ≤ 9223372036854775807) : OpR g d i' env fr (.convert src dst x) (.t (.int .i64 m)) fr [] := .p rfl rfl (by
  unfold evP convS
  simp only [hx, hs, hd, IntWalk.i64_in _ h])
end
end Go.Proofs.YtgbfedgghjcdcaaGreatDoor
