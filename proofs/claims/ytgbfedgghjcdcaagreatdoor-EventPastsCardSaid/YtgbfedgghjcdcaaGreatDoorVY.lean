/- The tree evaluator, 28: maps whose keys are structs. No condition. -/
import Derived.Test.YtgbfedgghjcdcaaGreatDoorVX
namespace Go.Proofs.YtgbfedgghjcdcaaGreatDoor
set_option linter.unusedSimpArgs false
set_option linter.unusedVariables false
set_option linter.unusedSectionVars false
open Go.RowKit
theorem putA_app (xs : List AV) : ∀ (pre old : List AV), old.length = xs.length → putA (pre ++ old) pre.length xs = pre ++ xs := by
  induction xs with
  | nil =>
    intro pre old h
    rw [List.length_eq_zero_iff.1 h]; rfl
  | cons x xs ih =>
    intro pre old h
    match old, h with
    | o :: old, h =>
      have e : (pre ++ o :: old).set pre.length x = (pre ++ [x]) ++ old := by simp
      have := ih (pre ++ [x]) old (by simpa using h)
      unfold putA
      rw [e, show pre.length + 1 = (pre ++ [x]).length by simp, this]
      simp
theorem putA_all {os xs : List AV} (h : os.length = xs.length) : putA os 0 xs = xs := putA_app xs [] os h
theorem toAVs_map (fr : Fr) : ∀ (xs : List AV), toAVs fr (xs.map .t) = some xs
  | [] => rfl
  | x :: xs => by
    have ih := toAVs_map fr xs
    simp only [List.map_cons, toAVs, toAV, deep, ih]
theorem rchs_map (fr : Fr) (xs : List AV) : rchs fr (xs.map .t) = [] := rchs_trees (by simp [isTr])
section
variable {g : Cfg} {d : Option (List Nat)} {env : Env} {fr : Fr} {i' : Nat}
theorem OpR.lksn {t e kt n : Nat} {x k : Operand} {ok : Bool} {cs : List AV} {ks : List AV} {vs : List SV} {z v : SV} (h0 : mapT g.P t = none) (hm : mapTS g.P t = some (e, kt, n)) (hk : rd env k = .t (.agg cs)) (hn : Nat.beq cs.length n = true) (ho : mapOf fr (rd env x) = some (ks, vs)) (hf : findS g.P kt cs ks 0 = some none) (hz : zeroS g.P e = some z) (hv : okS ok z false = v) : OpR g d i' env fr (.lookup t x k ok) v fr [] := .p rfl rfl (by
  subst hv
  unfold evP lookupS
  simp only [h0]
  unfold lookupA
  simp only [hm, hk, hn, ho, hf, hz])
theorem OpR.lksi {t e kt n j : Nat} {x k : Operand} {ok : Bool} {cs : List AV} {ks : List AV} {vs : List SV} {z v : SV} (h0 : mapT g.P t = none) (hm : mapTS g.P t = some (e, kt, n)) (hk : rd env k = .t (.agg cs)) (hn : Nat.beq cs.length n = true) (ho : mapOf fr (rd env x) = some (ks, vs)) (hf : findS g.P kt cs ks 0 = some (some j)) (hz : vs[j]? = some z) (hv : okS ok z true = v) : OpR g d i' env fr (.lookup t x k ok) v fr [] := .p rfl rfl (by
  subst hv
  unfold evP lookupS
  simp only [h0]
  unfold lookupA
  simp only [hm, hk, hn, ho, hf, hz])
theorem OpR.shr1 {xt yt : TypeId} {x y : Operand} {k : IntKind} {m n : Int} (hx : rd env x = .t (.int k m)) (hy : rd env y = .t (.int k n)) (hn : n = 1) (h : 0 ≤ m) : OpR g d i' env fr (.binOp .shr xt x y yt) (.t (.int k (m / 2))) fr [] :=
  .bin hx hy (by unfold binS; simp only [if_true, intS, if_pos hn]; rw [Int.fdiv_eq_ediv_of_nonneg _ (by omega)])
theorem OpR.cvu {src dst : Nat} {k : IntKind} {x : Operand} {m : Int} {ds : TypeDesc} (hx : rd env x = .t (.int k m)) (hs : g.P.underlying src = some ds) (hd : g.P.underlying dst = some (.int .u64)) (h : 0 ≤ m ∧ m ≤ 9223372036854775807) : OpR g d i' env fr (.convert src dst x) (.t (.int .u64 m)) fr [] := .p rfl rfl (by
  unfold evP convS
  simp only [hx, hs, hd, IntWalk.u64_in _ ⟨h.1, by omega⟩])
/-- A whole struct of trees, stored into an own row. -/
theorem OpR.stq {t n r q : Nat} {a y : Operand} {tch : Bool} {es vs : List (List AV)} {xs os : List AV} {fr' : Fr} (hs : ∀ C : CallF, step g C d i' env fr (.store t a y) = evT g C env fr (.store t a y)) (ht : sizeT g.P t = some (true, n)) (ha : rd env a = .le r n q 0) (hy : rd env y = .t (.agg xs)) (hone : (xs.map SV.t).all oneS = true) (hl : xs.length = n) (hb : fr[r]? = some (.row false tch n es)) (hk : es[q]? = some os) (ho : os.length = n) (hv : es.set q xs = vs) (hf : LEq (fr.set r (.row false tch n vs)) fr') : OpR g d i' env fr (.store t a y) .dead fr' [] := .r fun C => by
  obtain rfl := hf.eq
  subst hv
  have h2 : Nat.beq n n = true := by simp
  have hcell : cellsS (.t (.agg xs)) = xs.map .t := rfl
  have hlen : Nat.beq (xs.map SV.t).length n = true := by simp [hl]
  have hle : Nat.ble (0 + n) os.length = true := by rw [Nat.ble_eq]; omega
  rw [hs]
  unfold evT
  simp only [isW]
  unfold evW
  simp only
  unfold storeE
  simp only [ht, ha, hy, hcell, hone, hlen, Bool.and_self, hb, h2, hk, hle, toAVs_map, rchs_map, hasN, List.any_nil, freeze]
  rw [putA_all (by omega)]
theorem OpR.mks {t : Nat} {l c : Operand} {sl sc x : SV} {fr1 fr' : Fr} (hs : ∀ C : CallF, step g C d i' env fr (.makeSlice t l c) = evW g C (drOf d i') env fr (.makeSlice t l c)) (hl : rd env l = sl) (hc : rd env c = sc) (hm : makeE g.P fr t sl sc = some (x, fr1, [])) (hf : LEq fr1 fr') : OpR g d i' env fr (.makeSlice t l c) x fr' [] := .r fun C => by
  obtain rfl := hf.eq
  subst hl hc
  rw [hs]
  unfold evW
  simp only [hm]
theorem OpR.mps {t e kt n i : Nat} {m k y : Operand} {cs : List AV} {ks ks' : List AV} {vs vs' : List SV} {x : SV} {fr' : Fr} (hs : ∀ C : CallF, step g C d i' env fr (.mapUpdate t m k y) = evW g C (drOf d i') env fr (.mapUpdate t m k y)) (h0 : mapT g.P t = none) (hm : mapTS g.P t = some (e, kt, n)) (ha : rd env m = .lm i) (hk : rd env k = .t (.agg cs)) (hn : Nat.beq cs.length n = true) (hy : rd env y = x) (hb : fr[i]? = some (.map false ks vs)) (hf : findS g.P kt cs ks 0 = some none) (hks : ks ++ [.agg cs] = ks') (hvs : vs ++ [x] = vs') (hfr : LEq (fr.set i (.map false ks' vs')) fr') : OpR g d i' env fr (.mapUpdate t m k y) .dead fr' [] := .r fun C => by
  rw [hs]
  obtain rfl := hfr.eq
  subst hks hvs hy
  unfold evW insertE
  simp only [h0]
  unfold insertA
  simp only [hm, ha, hk, hb, hn, hf]
end
end Go.Proofs.YtgbfedgghjcdcaaGreatDoor
