/- What the claims of this seat share: the settled program's closed facts, the listed table, the arguments opened as values. Conditions: the form's own reach. -/
import Derived.Test.YtfdchnepaaampaaDoorOpen
import Derived.Test.YtfdchnepaaampaaDoorClkT
import Derived.Test.YtfdchnepaaampaaDoorCards
import Derived.Test.YtfdchnepaaampaaDoorTie
import Derived.Deep.DeepHandedRow
import Derived.Lib.LaidTab
import Derived.LaidMore
import Derived.LaidSub
namespace Go.Proofs.YtfdchnepaaampaaDoor
open Go.ChangeShapes Go.WideShapes Go.ChangeAt Go.RowKit

theorem own : ownKnob Tryd.prog.godebug = none := by kernel_rfl
theorem gTab : Tryd.prog.globalNamed "internal/strconv.uint64pow10" = some 3 := by kernel_rfl
theorem gTabType : (Tryd.prog.globals[3]?).map (·.type) = some 119 := by kernel_rfl
theorem cellsTab : Tryd.prog.cellsOf 119 = 20 := by kernel_rfl
theorem cellsU64 : Tryd.prog.cellsOf 96 = 1 := by kernel_rfl

section
variable {H : Type} {enc : TypeId × Value → H} {W : World}
theorem int_bounds {x : Int} (h : (Lit.int .i64 x).wf = true) : -9223372036854775808 ≤ x ∧ x ≤ 9223372036854775807 := by
  simp only [Lit.wf, Bool.and_eq_true, decide_eq_true_eq] at h
  exact ⟨h.1, h.2⟩
theorem tab_of_laid {l : List (String × DataW Unit)} (hl : (l.filter fun x => x.1 == "internal/strconv.uint64pow10") = [("internal/strconv.uint64pow10", Rows.laid_internal_strconv_uint64pow10)]) (h : laidMetH Tryd.prog l W) : Tab W := by
  have h1 := laidMetH.filter (fun x => x.1 == "internal/strconv.uint64pow10") h
  rw [hl] at h1
  exact Lib.tabIs_of_head (rest := []) gTab gTabType Tryd.underlying119 Tryd.underlying96 cellsU64 cellsTab h1
theorem small_args {P : Program} {ts us : List TypeId} {ds gs : List (DataW H)} (h : (DataW.weightsEach P (ts ++ us) (ds ++ gs)).all (· ≤ reachBytes) = true) : Small (DataW.weightsEach P ts ds) := by
  have h0 : Small (DataW.weightsEach P (ts ++ us) (ds ++ gs)) := fun n hn => by simpa using List.all_eq_true.1 h n hn
  clear h
  induction ts generalizing ds with
  | nil => intro n hn; simp [DataW.weightsEach] at hn
  | cons t ts ih =>
    cases ds with
    | nil => intro n hn; simp [DataW.weightsEach] at hn
    | cons d ds =>
      simp only [List.cons_append, DataW.weightsEach] at h0 ⊢
      have h1 := Small.app h0
      intro n hn
      rcases List.mem_append.1 hn with h | h
      · exact h1.1 n h
      · exact ih h1.2 n h
set_option maxRecDepth 100000 in
theorem arg_ints {b0 : Nat} {v : Value} {d : DataW H} {p : List MemPlace} (hv : Value.okWide Tryd.prog W .any b0 25 v) (h : DataW.Trod enc Tryd.prog W 0 (fun _ => true) true 25 v d p) (hs : Small (d.weights Tryd.prog 25)) :
    ∃ A n c l, v = .slice A n c ∧ n ≤ c ∧ c ≤ 17592186044416 ∧ RI W A n l ∧ ∀ x ∈ l, -9223372036854775808 ≤ x ∧ x ≤ 9223372036854775807 := by
  obtain ⟨a0, len, cap, rfl⟩ := okWide_slice Tryd.underlying25 hv
  obtain ⟨fuel, hf⟩ := h
  obtain ⟨l, A, n, c, hcs, h1, h2, h3, h4⟩ := open_ri (cs := [Value.slice a0 len cap]) hf hs
  injection hcs with hcs _
  exact ⟨A, n, c, l, hcs, h1, h2, h3, h4⟩
set_option maxRecDepth 100000 in
theorem arg_rows {b0 : Nat} {v : Value} {d : DataW H} {p : List MemPlace} (hv : Value.okWide Tryd.prog W .any b0 22 v) (h : DataW.Trod enc Tryd.prog W 0 (fun _ => true) true 22 v d p) (hs : Small (d.weights Tryd.prog 22)) :
    ∃ A n c l, v = .slice A n c ∧ n ≤ c ∧ c ≤ 17592186044416 ∧ RL W A n l := by
  obtain ⟨a0, len, cap, rfl⟩ := okWide_slice Tryd.underlying22 hv
  obtain ⟨fuel, hf⟩ := h
  obtain ⟨l, A, n, c, hcs, h1, h2, h3⟩ := open_rl (cs := [Value.slice a0 len cap]) hf hs
  injection hcs with hcs _
  exact ⟨A, n, c, l, hcs, h1, h2, h3⟩
end
end Go.Proofs.YtfdchnepaaampaaDoor
