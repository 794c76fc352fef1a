/- What the claims of this seat share: the settled program's closed facts, the listed table, the arguments opened as values. Conditions: the form's own reach. -/
import Derived.Test.YtfdchnepaaampaaDoorOpen
import Derived.Test.YtfdchnepaaampaaDoorClkT
import Derived.Test.YtfdchnepaaampaaDoorCards
import Derived.Test.YtfdchnepaaampaaDoorTie
import Derived.Deep.DeepHandedRow
import Derived.Lib.LaidTab
import Derived.LaidMore
import Derived.LaidSub
import Derived.Lib.SmallJoins
namespace Go.Proofs.YtfdchnepaaampaaDoor
set_option linter.unusedSimpArgs false
set_option linter.unusedVariables false
set_option linter.unusedSectionVars false
open Go.ChangeShapes Go.WideShapes Go.ChangeAt Go.RowKit

theorem own : ownKnob Tryd.prog.godebug = none := by kernel_rfl
theorem gTab : Tryd.prog.globalNamed "internal/strconv.uint64pow10" = some 3 := by kernel_rfl
theorem gTabType : (Tryd.prog.globals[3]?).map (·.type) = some 119 := by kernel_rfl
theorem cellsTab : Tryd.prog.cellsOf 119 = 20 := by kernel_rfl
theorem cellsU64 : Tryd.prog.cellsOf 96 = 1 := by kernel_rfl

theorem cellsInt1 : Tryd.prog.cellsOf 3 = 1 := by kernel_rfl
theorem bytesSpan : Tryd.prog.bytesOf 43 = 24 := by kernel_rfl
section
variable {H : Type} {enc : TypeId × Value → H} {W : World}
theorem int_bounds {x : Int} (h : (Lit.int .i64 x).wf = true) : -9223372036854775808 ≤ x ∧ x ≤ 9223372036854775807 := by
  simp only [Lit.wf, Bool.and_eq_true, decide_eq_true_eq] at h
  exact ⟨h.1, h.2⟩
theorem tab_of_laid {l : List (String × DataW Unit)} (hl : (l.filter fun x => x.1 == "internal/strconv.uint64pow10") = [("internal/strconv.uint64pow10", Rows.laid_internal_strconv_uint64pow10)]) (h : laidMetH Tryd.prog l W) : Tab W := by
  have h1 := laidMetH.filter (fun x => x.1 == "internal/strconv.uint64pow10") h
  rw [hl] at h1
  exact Lib.tabIs_of_head (rest := []) gTab gTabType Tryd.underlying119 Tryd.underlying96 cellsU64 cellsTab h1
theorem small_args {P : Program} {ts us : List TypeId} {ds gs : List (DataW H)} (h : (DataW.weightsEach P (ts ++ us) (ds ++ gs)).all (· ≤ reachBytes) = true) : Small (DataW.weightsEach P ts ds) := by
  have h0 : Small (DataW.weightsEach P (ts ++ us) (ds ++ gs)) := fun n hn => by simpa using List.all_eq_true.1 h n hn
  clear h
  induction ts generalizing ds with
  | nil => intro n hn; simp [DataW.weightsEach] at hn
  | cons t ts ih =>
    cases ds with
    | nil => intro n hn; simp [DataW.weightsEach] at hn
    | cons d ds =>
      simp only [List.cons_append, DataW.weightsEach] at h0 ⊢
      have h1 := Small.app h0
      intro n hn
      rcases List.mem_append.1 hn with h | h
      · exact h1.1 n h
      · exact ih h1.2 n h
set_option maxRecDepth 100000 in
theorem arg_ints {b0 : Nat} {v : Value} {d : DataW H} {p : List MemPlace} (hv : Value.okWide Tryd.prog W .any b0 25 v) (h : DataW.Trod enc Tryd.prog W 0 (fun _ => true) true 25 v d p) (hs : Small (d.weights Tryd.prog 25)) :
    ∃ A n c l, v = .slice A n c ∧ n ≤ c ∧ c ≤ 17592186044416 ∧ RI W A n l ∧ ∀ x ∈ l, -9223372036854775808 ≤ x ∧ x ≤ 9223372036854775807 := by
  obtain ⟨a0, len, cap, rfl⟩ := okWide_slice Tryd.underlying25 hv
  obtain ⟨fuel, hf⟩ := h
  obtain ⟨l, A, n, c, hcs, h1, h2, h3, h4⟩ := open_ri (cs := [Value.slice a0 len cap]) hf hs
  injection hcs with hcs _
  exact ⟨A, n, c, l, hcs, h1, h2, h3, h4⟩
set_option maxRecDepth 100000 in
theorem arg_rows {b0 : Nat} {v : Value} {d : DataW H} {p : List MemPlace} (hv : Value.okWide Tryd.prog W .any b0 22 v) (h : DataW.Trod enc Tryd.prog W 0 (fun _ => true) true 22 v d p) (hs : Small (d.weights Tryd.prog 22)) :
    ∃ A n c l, v = .slice A n c ∧ n ≤ c ∧ c ≤ 17592186044416 ∧ RL W A n l := by
  obtain ⟨a0, len, cap, rfl⟩ := okWide_slice Tryd.underlying22 hv
  obtain ⟨fuel, hf⟩ := h
  obtain ⟨l, A, n, c, hcs, h1, h2, h3⟩ := open_rl (cs := [Value.slice a0 len cap]) hf hs
  injection hcs with hcs _
  exact ⟨A, n, c, l, hcs, h1, h2, h3⟩
set_option maxRecDepth 100000 in
theorem open_dot {b0 : Nat} {v : Value} {d : DataW H} {p : List MemPlace} (hv : Value.okWide Tryd.prog W .any b0 47 v) (h : DataW.Trod enc Tryd.prog W 0 (fun _ => true) true 47 v d p) :
    ∃ x y, v = .agg #[.int .i64 x, .int .i64 y] ∧ (-9223372036854775808 ≤ x ∧ x ≤ 9223372036854775807) ∧ (-9223372036854775808 ≤ y ∧ y ≤ 9223372036854775807) := by
  obtain ⟨c0, c1, y0, y1, m, rfl, _, _, hy0, hy1⟩ := Go.Joins.open_agg2 Tryd.underlying47 (by kernel_rfl) (by kernel_rfl) hv h
  obtain ⟨a, e0, _, wa⟩ := DataW.trod_int Tryd.underlying3 hy0
  obtain ⟨b, e1, _, wb⟩ := DataW.trod_int Tryd.underlying3 hy1
  injection e0 with e0 _
  injection e1 with e1 _
  subst e0 e1
  exact ⟨a, b, rfl, int_bounds wa, int_bounds wb⟩
/-- The cells are a span's. -/
def SpCell (_ : World) (cs : List Value) (s : Sp) : Prop := cs = spCells s ∧ (-9223372036854775808 ≤ s.r ∧ s.r ≤ 9223372036854775807) ∧ (-9223372036854775808 ≤ s.f ∧ s.f ≤ 9223372036854775807) ∧ (-9223372036854775808 ≤ s.t ∧ s.t ≤ 9223372036854775807)
instance : Inhabited Sp := ⟨⟨0, 0, 0⟩⟩
set_option maxRecDepth 100000 in
theorem open_spc {w : World} {fuel : Nat} {cs : List Value} {d : DataW H} {ps : List MemPlace} (h : DataW.trod enc Tryd.prog w 0 (fun _ => true) true fuel 43 cs = some (d, ps)) : ∃ x, SpCell w cs x := by
  obtain ⟨xs, n, _, _, hl, hxl, hf⟩ := DataW.trod_struct Tryd.underlying43 h
  have hl3 : cs.length = 3 := by rw [hl]; kernel_rfl
  match cs, hl3 with
  | [a, b, c], _ =>
    have hx3 : xs.length = 3 := by rw [hxl]; rfl
    match xs, hx3 with
    | [x0, x1, x2], _ =>
      have f0 : DataW.trod enc Tryd.prog w 0 (fun _ => true) true n 3 (([a, b, c].drop 0).take (Tryd.prog.cellsOf 3)) = some x0 := hf 0 _ rfl
      have f1 : DataW.trod enc Tryd.prog w 0 (fun _ => true) true n 3 (([a, b, c].drop 1).take (Tryd.prog.cellsOf 3)) = some x1 := hf 1 _ rfl
      have f2 : DataW.trod enc Tryd.prog w 0 (fun _ => true) true n 3 (([a, b, c].drop 2).take (Tryd.prog.cellsOf 3)) = some x2 := hf 2 _ rfl
      rw [cellsInt1] at f0 f1 f2
      obtain ⟨r, e0, _, w0⟩ := DataW.trod_int Tryd.underlying3 (show DataW.trod enc Tryd.prog w 0 (fun _ => true) true n 3 [a] = some x0 from f0)
      obtain ⟨f, e1, _, w1⟩ := DataW.trod_int Tryd.underlying3 (show DataW.trod enc Tryd.prog w 0 (fun _ => true) true n 3 [b] = some x1 from f1)
      obtain ⟨t, e2, _, w2⟩ := DataW.trod_int Tryd.underlying3 (show DataW.trod enc Tryd.prog w 0 (fun _ => true) true n 3 [c] = some x2 from f2)
      injection e0 with e0 _
      injection e1 with e1 _
      injection e2 with e2 _
      subst e0 e1 e2
      exact ⟨⟨r, f, t⟩, rfl, int_bounds w0, int_bounds w1, int_bounds w2⟩
set_option maxRecDepth 100000 in
theorem arg_spans {b0 : Nat} {v : Value} {d : DataW H} {p : List MemPlace} (hv : Value.okWide Tryd.prog W .any b0 37 v) (h : DataW.Trod enc Tryd.prog W 0 (fun _ => true) true 37 v d p) (hs : Small (d.weights Tryd.prog 37)) :
    ∃ A n c l, v = .slice A n c ∧ n ≤ c ∧ c ≤ 17592186044416 ∧ RS W A n l ∧ ∀ s ∈ l, SpCell W (spCells s) s := by
  obtain ⟨a0, len, cap, rfl⟩ := okWide_slice Tryd.underlying37 hv
  obtain ⟨fuel, hf⟩ := h
  obtain ⟨l, A, n, c, hcs, hnc, hc, hl, hr⟩ := open_sl Tryd.underlying37 (show Tryd.prog.cellsOf 43 = 3 by kernel_rfl) (by omega) (by rw [bytesSpan]; omega) SpCell (fun _ _ _ _ h _ => open_spc h) (cs := [Value.slice a0 len cap]) hf hs
  injection hcs with hcs _
  refine ⟨A, n, c, l, hcs, hnc, hc, ⟨hl, by omega, fun h0 => ?_⟩, fun s hs => ?_⟩
  · have h0' : 0 < n := by rw [flat_len, hl] at h0; omega
    obtain ⟨b, o, rfl, hb, hcell⟩ := hr h0'
    refine ⟨b, o, rfl, hb, fun j u hu => ?_⟩
    have hj : j < n * 3 := by have := lt_of_get hu; rw [flat_len, hl] at this; exact this
    obtain ⟨x, hx⟩ := get_of_lt (xs := l) (k := j / 3) (by omega)
    obtain ⟨cs', _, hc', hs', _⟩ := hcell (j / 3) x hx
    have e : j / 3 * 3 + j % 3 = j := by omega
    have hfl := flat_at hx
    have hu' : (spCells x)[j % 3]? = some u := by
      have h3 : j % 3 < 3 := Nat.mod_lt _ (by omega)
      rw [← e] at hu
      match hq : j % 3, h3 with
      | 0, _ => rw [hq] at hu; rw [Nat.add_zero, hfl.1] at hu; rw [← hu]; rfl
      | 1, _ => rw [hq] at hu; rw [hfl.2.1] at hu; rw [← hu]; rfl
      | 2, _ => rw [hq] at hu; rw [hfl.2.2] at hu; rw [← hu]; rfl
    rw [← hs'] at hu'
    have := hc' (j % 3) u hu'
    rwa [e] at this
  · obtain ⟨k, hk, hks⟩ := List.mem_iff_getElem.1 hs
    obtain ⟨_, _, _, _, hcell⟩ := hr (by omega)
    obtain ⟨cs', _, _, h1, h2⟩ := hcell k s (by rw [List.getElem?_eq_getElem hk, hks])
    exact ⟨rfl, h2⟩
end
end Go.Proofs.YtfdchnepaaampaaDoor
