/- Proved: ClockLattice answers true at every input, and leaves its arguments as they were. Conditions: none but the card's own (the listed tables stand as the program's text lays them). -/
import Derived.Test.YtfdchnepaaampaaDoorLawF
import Derived.Test.YtfdchnepaaampaaDoorOpen
import Derived.Test.YtfdchnepaaampaaDoorCards
import Derived.Test.YtfdchnepaaampaaDoorTie
import Derived.Deep.DeepHandedRow
import Derived.Lib.LaidTab
import Derived.LaidMore
import Derived.Test.YtfdchnepaaampaaDoorClaim
namespace Go.Proofs.YtfdchnepaaampaaDoor.clockLattice
set_option linter.unusedSimpArgs false
set_option linter.unusedVariables false
set_option linter.unusedSectionVars false
open Go.ChangeShapes Go.WideShapes Go.ChangeAt Go.RowKit

set_option maxRecDepth 100000 in
theorem contract (H : Type) (enc : TypeId × Value → H) (W : World) (base : Nat) (args : Array Value) (ds gs : List (DataW H)) (before : List MemPlace)
    (hval : ∀ (j : Nat) t v, Tryd.f4.params[j]? = some t → args[j]? = some v → Value.okWide Tryd.prog W .any base t v)
    (hW : DataW.Whole enc Tryd.prog Tryd.f4.params.toList Rows.clockLatticeSpec.vars false W args.toList ds gs before) (hsz : (DataW.weightsEach Tryd.prog (Tryd.f4.params.toList ++ (OpenSpec.ofChange Rows.clockLatticeSpec).bare.plain.varTypes Tryd.prog) (ds ++ gs)).all (· ≤ reachBytes) = true) (hL : laidMetH Tryd.prog Rows.clockLatticeRow.laid W) (hS : W.ShapedOpen Tryd.prog) :
    Calls Tryd.prog 4 args W fun e W' => ∃ v, e = .returned v ∧ Rows.clockLatticeSpec.post enc Tryd.prog Tryd.f4 false true false false W args v W' := by
  have hT := tab_of_laid (by kernel_rfl) hL
  have hsm : Small (DataW.weightsEach Tryd.prog Tryd.f4.params.toList ds) := small_args hsz
  have hW' := hW
  obtain ⟨p, q, hA0, hV, rfl, hfz, hnd⟩ := hW
  have hA : DataW.TrodAll enc Tryd.prog W 0 (fun _ => true) true Tryd.f4.params.toList args.toList ds p := hA0
  rw [Tryd.params4] at hA hval hsm
  obtain ⟨v0, vs0, d0, ds0, p0, q0, hargs0, rfl, rfl, h0, r0⟩ := trodAll_cons hA
  obtain ⟨v1, vs1, d1, ds1, p1, q1, hargs1, rfl, rfl, h1, r1⟩ := trodAll_cons r0
  obtain ⟨v2, vs2, d2, ds2, p2, q2, hargs2, rfl, rfl, h2, r2⟩ := trodAll_cons r1
  obtain ⟨hlast, rfl, rfl⟩ := trodAll_nil r2
  subst hlast
  subst hargs2
  subst hargs1
  obtain rfl : args = #[v0, v1, v2] := by cases args; simp_all
  obtain ⟨rfl, rfl⟩ := trodVars_none hV
  simp only [DataW.weightsEach, List.append_nil] at hsm
  have hs0 : Small (d0.weights Tryd.prog 25) := (Small.app hsm).1
  replace hsm := (Small.app hsm).2
  obtain ⟨A0, n0, c0, l0, rfl, hn0, hc0, hr0, hB0⟩ := arg_ints (hval 0 25 v0 rfl rfl) h0 hs0
  have hs1 : Small (d1.weights Tryd.prog 25) := (Small.app hsm).1
  replace hsm := (Small.app hsm).2
  obtain ⟨A1, n1, c1, l1, rfl, hn1, hc1, hr1, hB1⟩ := arg_ints (hval 1 25 v1 rfl rfl) h1 hs1
  have hs2 : Small (d2.weights Tryd.prog 25) := hsm
  obtain ⟨A2, n2, c2, l2, rfl, hn2, hc2, hr2, hB2⟩ := arg_ints (hval 2 25 v2 rfl rfl) h2 hs2
  exact law_close (s := Rows.clockLatticeSpec) rfl (by kernel_rfl) (by kernel_rfl) rfl hW' (law_lattice A0 A1 A2 n0 n1 n2 c0 c1 c2 l0 l1 l2 W hr0 hr1 hr2 hT hn0 hn1 hn2)

theorem laid_met (os : Os) : laidMet Tryd.prog Rows.clockLatticeRow.laid (((World.doorLaid Tryd.prog 4000 os)).forCall (fun _ _ => 0) ⟨#[], #[.slice none 0 0, .slice none 0 0, .slice none 0 0], []⟩).memory :=
  laidMet_of_run' 8 (by kernel_rfl) (by kernel_rfl)
theorem reads (os : Os) {H : Type} (enc : TypeId × Value → H) : ∃ places, DataW.whole enc Tryd.prog (((World.doorLaid Tryd.prog 4000 os)).forCall (fun _ _ => 0) ⟨#[], #[.slice none 0 0, .slice none 0 0, .slice none 0 0], []⟩).memory Tryd.f4.params.toList Rows.clockLatticeSpec.vars false (#[.slice none 0 0, .slice none 0 0, .slice none 0 0] : Array Value).toList 8 = some ([.nil, .nil, .nil], [], places) :=
  ⟨[], by kernel_rfl⟩

set_option maxRecDepth 100000 in
theorem lifted (os : Os) (started : os.Started) (H : Type) (enc : TypeId × Value → H) (F : Stop.Interp) :
    ReturnsInHanded {} Tryd.checked os 4 .any ((OpenSpec.ofChange Rows.clockLatticeSpec).preRow enc Tryd.prog Tryd.f4 Rows.clockLatticeRow.domain false Rows.clockLatticeRow.laid) (((OpenSpec.ofChange Rows.clockLatticeSpec).at F).post enc Tryd.prog Tryd.f4 false true false false) := by
  obtain ⟨places, hx⟩ := reads os enc
  refine returnsInHanded_of_row (C := Tryd.checked) (s := OpenSpec.ofChange Rows.clockLatticeSpec) own started (by kernel_rfl) Tryd.func4
    (witness_row_at (enc := enc) (C := Tryd.checked) false (World.doorLaid Tryd.prog 4000 os) #[.slice none 0 0, .slice none 0 0, .slice none 0 0] rfl (by kernel_rfl) (by kernel_rfl) (by kernel_rfl)
      (OpenSpec.preRow_of_cond 8 hx (by kernel_rfl) (fun k hk => by cases hk) (by kernel_rfl) (laid_met os))) ?_
  intro W base args ds gs before hval hW _ _ hsz hL hS _
  exact contract H enc W base args ds gs before hval hW hsz hL hS

theorem said : Rows.ClockLatticeSaid :=
  OpenClaim.holds_of_cond 4 Tryd.f4 rfl rfl rfl rfl rfl rfl rfl ⟨rfl, rfl, rfl, rfl, rfl⟩ rfl rfl rfl rfl rfl (by kernel_rfl) Tryd.func4 (by kernel_rfl)
    (of_decide_eq_true (by kernel_rfl)) (by unfold Func.isWrapper; rw [if_neg (of_decide_eq_false (by kernel_rfl))]; exact ⟨rfl, rfl⟩)
    (fun os started H enc _ F => by rw [OpenClaim.pre_eq_preRow]; exact lifted os started H enc F)

theorem plain (f : FuncId) (fn : Func) (hf : Tryd.pinned.checked.prog.funcNamed "confluent/confluentlaw31.ClockLattice" = some f) (hfn : Tryd.pinned.checked.prog.funcs[f]? = some fn) :
    true = Tryd.pinned.checked.prog.looks [] ∧ ∀ (j : Nat) t, fn.params[j]? = some t → Tryd.pinned.checked.prog.wantsStandIn t = false := by
  obtain rfl : f = 4 := Option.some.inj ((show Tryd.prog.funcNamed "confluent/confluentlaw31.ClockLattice" = some 4 by kernel_rfl).symm.trans hf) |>.symm
  obtain rfl : fn = Tryd.f4 := (Option.some.inj (Tryd.func4.symm.trans hfn)).symm
  refine ⟨by kernel_rfl, fun j t ht => ?_⟩
  rw [Tryd.params4] at ht
  have hm : t ∈ [25] := by have h := Array.mem_of_getElem? ht; simp at h; simp; omega
  have hall : ([25].all fun u => !Tryd.prog.wantsStandIn u) = true := by kernel_rfl
  exact (show Tryd.prog.wantsStandIn t = false by simpa using List.all_eq_true.1 hall t hm)

/-- The card: ClockLattice answers true at every input. -/
theorem card : Rows.ClockLatticeCardSaid :=
  Claim7.holds_tied_plain_at .later [] _ _ _ _ said (fun _ h => by cases h) (by kernel_rfl) (fun _ h => by cases h) clockLattice_row_tie rfl ⟨rfl, rfl⟩ (by kernel_rfl) rfl plain (by kernel_rfl)
end Go.Proofs.YtfdchnepaaampaaDoor.clockLattice
