/- Arguments opened: what a slice of ints, of slices of ints, of spans, a dot and an int read as. Conditions: the form's own reach. -/
import Derived.Test.YtfdchnepaaampaaDoorBase2
import Derived.ProofKit
import Derived.OpenShut
import Derived.Deep.Slices
import Derived.SizedLaws
import Derived.ChangeSame
import Derived.Carry
namespace Go.Proofs.YtfdchnepaaampaaDoor
set_option linter.unusedSimpArgs false
set_option linter.unusedVariables false
set_option linter.unusedSectionVars false
open Go.RowKit Go.ChangeShapes Go.WideShapes Go.Deep

section
variable {H : Type} {enc : TypeId × Value → H} {w : World}

def Small (l : List Nat) : Prop := ∀ n ∈ l, n ≤ reachBytes
theorem Small.app {a b : List Nat} (h : Small (a ++ b)) : Small a ∧ Small b := ⟨fun n hn => h n (by simp [hn]), fun n hn => h n (by simp [hn])⟩
theorem small_all {P : Program} {e : TypeId} : ∀ {l : List (DataW H)}, Small (DataW.weightsAll P e l) → ∀ d ∈ l, Small (d.weights P e)
  | [], _, d, hd => by cases hd
  | x :: l, h, d, hd => by
    have h' := Small.app h
    rcases List.mem_cons.1 hd with rfl | hd
    · exact h'.1
    · exact small_all h'.2 d hd

/-- The cells are a slice of elements that read by R, sz cells each. -/
def SliceOf {α : Type} (sz : Nat) (R : World → List Value → α → Prop) (w : World) (cs : List Value) (l : List α) : Prop :=
  ∃ (A : Option Addr) (n c : Nat), cs = [Value.slice A n c] ∧ n ≤ c ∧ c ≤ 17592186044416 ∧ l.length = n ∧
    (0 < n → ∃ b o, A = some ⟨b, o, none⟩ ∧ b < w.heap.size ∧ ∀ (k : Nat) (x : α), l[k]? = some x → ∃ cs', cs'.length = sz ∧ (∀ (j : Nat) (u : Value), cs'[j]? = some u → w.cell? ⟨b, o + (k * sz + j), none⟩ = some u) ∧ R w cs' x)

theorem cap_le {m : Nat} (h : m * 8 ≤ reachBytes) : m ≤ 17592186044416 := by unfold reachBytes at h; omega
theorem open_sl {α : Type} [Inhabited α] {t e : TypeId} {sz : Nat} (ht : Tryd.prog.underlying t = some (.slice e)) (hsz : Tryd.prog.cellsOf e = sz) (hpos : 0 < sz) (hby : 8 ≤ Tryd.prog.bytesOf e) (R : World → List Value → α → Prop)
    (hel : ∀ (fuel : Nat) (cs : List Value) (d : DataW H) (ps : List MemPlace), DataW.trod enc Tryd.prog w 0 (fun _ => true) true fuel e cs = some (d, ps) → Small (d.weights Tryd.prog e) → ∃ x, R w cs x)
    {fuel : Nat} {cs : List Value} {d : DataW H} {ps : List MemPlace} (h : DataW.trod enc Tryd.prog w 0 (fun _ => true) true fuel t cs = some (d, ps)) (hw : Small (d.weights Tryd.prog t)) : ∃ l, SliceOf sz R w cs l := by
  rcases open_slice ht h with ⟨rfl, _⟩ | ⟨a, len, cap, m, n, D, Pl, rfl, _, hl, _, hm, hx, hi⟩
  · exact ⟨[], none, 0, 0, rfl, Nat.le_refl _, Nat.zero_le _, rfl, fun h => absurd h (Nat.lt_irrefl 0)⟩
  · simp only [if_true] at hm
    subst hm
    simp only [Prod.mk.injEq] at hx
    rw [hx.1] at hw; clear hx h
    rw [DataW.weights] at hw; simp only [ht] at hw
    have hcap : m * 8 ≤ reachBytes := by
      have := hw _ (List.mem_cons_self)
      simp only [List.length_map, List.length_range] at this
      have h2 : m * 8 ≤ m * Tryd.prog.bytesOf e := Nat.mul_le_mul_left _ hby
      have h3 : len + (m - len) = m := by omega
      rw [h3] at this
      omega
    have hwe : ∀ i, i < len → Small ((D i).weights Tryd.prog e) := by
      intro i hi'
      have h2 : Small (DataW.weightsAll Tryd.prog e ((List.range len).map D)) := fun n hn => hw n (List.mem_cons_of_mem _ (List.mem_append_left _ hn))
      exact small_all h2 _ (List.mem_map_of_mem (List.mem_range.2 hi'))
    have hev : ∀ i, i < len → ∃ z : List Value × α, w.cells? 0 (a.add (i * sz)) sz = some z.1 ∧ R w z.1 z.2 := by
      intro i hi'
      obtain ⟨cs', hc, ht'⟩ := hi i (by omega)
      rw [hsz] at hc
      obtain ⟨y, hy⟩ := hel _ _ _ _ ht' (hwe i hi')
      exact ⟨(cs', y), hc, hy⟩
    obtain ⟨f, hf⟩ := choose_lt hev
    have hcell : ∀ i, i < len → ∀ (j : Nat) (u : Value), (f i).1[j]? = some u → w.cell? ((a.add (i * sz)).add j) = some u := by
      intro i hi' j u hu
      obtain ⟨_, hcl, hat⟩ := World.cells?_some (hf i hi').1
      have hj : j < sz := by have := (List.getElem?_eq_some_iff.1 hu).1; omega
      rw [hat j hj, hu]
    refine ⟨(List.range len).map fun i => (f i).2, some a, len, m, rfl, hl, cap_le hcap, by simp, fun h0 => ?_⟩
    have hl0 : 0 < (f 0).1.length := by
      obtain ⟨_, hcl, _⟩ := World.cells?_some (hf 0 h0).1
      omega
    have hc0 := hcell 0 h0 0 _ (List.getElem?_eq_getElem hl0)
    obtain ⟨b, o, sp⟩ := a
    have hs : sp = none := by simpa [Addr.add] using World.cell?_spot hc0
    subst hs
    have hadd : ∀ i j : Nat, ((⟨b, o, none⟩ : Addr).add i).add j = ⟨b, o + (i + j), none⟩ := by
      intro i j
      unfold Addr.add
      by_cases hi0 : i = 0 <;> by_cases hj0 : j = 0 <;> simp [hi0, hj0, Nat.add_assoc]
    refine ⟨b, o, rfl, ?_, fun k x hk => ?_⟩
    · have := hadd 0 0
      rw [Nat.zero_mul, this] at hc0
      exact World.block_lt_of_cell? w _ hc0
    · have hkl : k < len := by have := lt_of_get hk; simpa using this
      have hx : x = (f k).2 := by
        rw [List.getElem?_map, List.getElem?_range hkl] at hk
        simpa using hk.symm
      subst hx
      obtain ⟨_, hcl, _⟩ := World.cells?_some (hf k hkl).1
      exact ⟨(f k).1, hcl, fun j u hu => by rw [← hadd]; exact hcell k hkl j u hu, (hf k hkl).2⟩

/-- One cell that holds an int. -/
def IntCell (_ : World) (cs : List Value) (n : Int) : Prop := cs = [.int .i64 n] ∧ -9223372036854775808 ≤ n ∧ n ≤ 9223372036854775807
theorem open_intc {fuel : Nat} {cs : List Value} {d : DataW H} {ps : List MemPlace} (h : DataW.trod enc Tryd.prog w 0 (fun _ => true) true fuel 3 cs = some (d, ps)) : ∃ x, IntCell w cs x := by
  obtain ⟨n, rfl, _, hwf⟩ := DataW.trod_int Tryd.underlying3 h
  simp only [Lit.wf, Bool.and_eq_true, decide_eq_true_eq] at hwf
  exact ⟨n, rfl, hwf.1, hwf.2⟩
/-- The cells are a slice of ints. -/
def IntsCell (w : World) (cs : List Value) (l : List Int) : Prop := ∃ A n c, cs = [.slice A n c] ∧ n ≤ c ∧ c ≤ 17592186044416 ∧ RI w A n l ∧ ∀ x ∈ l, -9223372036854775808 ≤ x ∧ x ≤ 9223372036854775807
theorem ints_of {cs : List Value} {l : List Int} (h : SliceOf 1 IntCell w cs l) : IntsCell w cs l := by
  obtain ⟨A, n, c, rfl, hnc, hc, hl, hr⟩ := h
  refine ⟨A, n, c, rfl, hnc, hc, ⟨hl, by omega, fun h0 => ?_⟩, fun x hx => ?_⟩
  · obtain ⟨b, o, rfl, hb, hcell⟩ := hr (by simpa [hl] using h0)
    refine ⟨b, o, rfl, hb, fun j u hu => ?_⟩
    rw [List.getElem?_map] at hu
    cases hx : l[j]? with
    | none => rw [hx] at hu; cases hu
    | some x =>
      rw [hx] at hu; cases hu
      obtain ⟨cs', _, hc', rfl, _⟩ := hcell j x hx
      have := hc' 0 _ rfl
      simpa using this
  · obtain ⟨k, hk, hkx⟩ := List.mem_iff_getElem.1 hx
    obtain ⟨_, _, _, _, hcell⟩ := hr (by omega)
    obtain ⟨cs', _, _, _, h1, h2⟩ := hcell k x (by rw [List.getElem?_eq_getElem hk, hkx])
    exact ⟨h1, h2⟩
theorem cellsT_int : Tryd.prog.cellsOf 3 = 1 := by kernel_rfl
theorem cellsT_ints : Tryd.prog.cellsOf 25 = 1 := by kernel_rfl
theorem bytesT_int : Tryd.prog.bytesOf 3 = 8 := by kernel_rfl
theorem bytesT_ints : Tryd.prog.bytesOf 25 = 24 := by kernel_rfl
theorem open_ri {fuel : Nat} {cs : List Value} {d : DataW H} {ps : List MemPlace} (h : DataW.trod enc Tryd.prog w 0 (fun _ => true) true fuel 25 cs = some (d, ps)) (hw : Small (d.weights Tryd.prog 25)) : ∃ l, IntsCell w cs l := by
  obtain ⟨l, hl⟩ := open_sl Tryd.underlying25 cellsT_int (by omega) (by rw [bytesT_int]; omega) IntCell (fun _ _ _ _ h _ => open_intc h) h hw
  exact ⟨l, ints_of hl⟩
/-- The cells are a slice of slices of ints. -/
def RowsCell (w : World) (cs : List Value) (l : List (List Int)) : Prop := ∃ A n c, cs = [.slice A n c] ∧ n ≤ c ∧ c ≤ 17592186044416 ∧ RL w A n l
theorem open_rl {fuel : Nat} {cs : List Value} {d : DataW H} {ps : List MemPlace} (h : DataW.trod enc Tryd.prog w 0 (fun _ => true) true fuel 22 cs = some (d, ps)) (hw : Small (d.weights Tryd.prog 22)) : ∃ l, RowsCell w cs l := by
  obtain ⟨l, A, n, c, rfl, hnc, hc, hl, hr⟩ := open_sl Tryd.underlying22 cellsT_ints (by omega) (by rw [bytesT_ints]; omega) IntsCell (fun _ _ _ _ h hs => open_ri h hs) h hw
  refine ⟨l, A, n, c, rfl, hnc, hc, hl, by omega, ?_⟩
  rcases Nat.eq_zero_or_pos n with h0 | h0
  · refine ⟨[], RC.nil _ _, by simp; omega, fun k x hk => ?_⟩
    have := lt_of_get hk; omega
  · obtain ⟨b, o, rfl, hb, hcell⟩ := hr h0
    have hev : ∀ i, i < n → ∃ v : Value, ∃ x, l[i]? = some x ∧ w.cell? ⟨b, o + i, none⟩ = some v ∧ IntsCell w [v] x := by
      intro i hi
      obtain ⟨x, hx⟩ := get_of_lt (xs := l) (k := i) (by omega)
      obtain ⟨cs', hcl, hc', hI⟩ := hcell i x hx
      match cs', hcl with
      | [v], _ => exact ⟨v, x, hx, by have := hc' 0 v rfl; simpa using this, hI⟩
    obtain ⟨f, hf⟩ := choose_lt hev
    refine ⟨(List.range n).map f, fun _ => ⟨b, o, rfl, hb, fun j u hu => ?_⟩, by simp [hl], fun k x hk => ?_⟩
    · have hj : j < n := by have := lt_of_get hu; simpa using this
      rw [List.getElem?_map, List.getElem?_range hj] at hu
      obtain ⟨_, _, h1, _⟩ := hf j hj
      rw [h1]; simpa using hu
    · have hkn : k < n := by have := lt_of_get hk; omega
      obtain ⟨x', hx', _, B, m, c', hv, _, _, hri, _⟩ := hf k hkn
      obtain rfl : x = x' := by rw [hk] at hx'; injection hx'
      refine ⟨B, m, c', ?_, hri⟩
      rw [List.getElem?_map, List.getElem?_range hkn]
      injection hv with hv
      simp [hv]
end

section
variable {H : Type} {enc : TypeId × Value → H} {P : Program}
theorem post_of_below {f : Func} {s : ChangeSpec} {apart fresh handsOn again : Bool} {W W' : World} {args : Array Value} {v : Value} {ds gs : List (DataW H)} {before pa pv : List MemPlace}
    (hW : DataW.Whole enc P f.params.toList s.vars apart W args.toList ds gs before)
    (hres : ∀ (b : Nat) (sp : Nat → Bool) (hd : Bool), DataW.TrodAll enc P W' b sp hd f.resultTypes.toList (v.resultList f.resultTypes.size) (s.fn H (ds ++ gs)).results [])
    (hargs : ∀ sp : Nat → Bool, (∀ p ∈ before, sp p.block = true) → DataW.TrodAll enc P W' 0 sp true f.params.toList args.toList (s.fn H (ds ++ gs)).args pa)
    (hvars : ∀ sp : Nat → Bool, (∀ p ∈ before, sp p.block = true) → DataW.TrodVars enc P W' sp s.vars (s.fn H (ds ++ gs)).vars pv)
    (hps : before = pa ++ pv) (hb : Below W.heap.size W W')
    (hok : ∀ (j : Nat) (t : TypeId) (r : Value), f.resultTypes[j]? = some t → (v.resultList f.resultTypes.size)[j]? = some r → Value.okWide P W' .any 0 t r) :
    s.post enc P f apart fresh handsOn again W args v W' := by
  have hlt : ∀ p ∈ before, p.block < W.heap.size := fun p hp => hW.lt p hp
  have hold : ∀ p ∈ before, (fun b => decide (b < W.heap.size)) p.block = true := fun p hp => by simpa using hlt p hp
  refine ⟨ds, gs, before, [], pa, pv, hW, hres _ _ _, hargs _ hold, hvars _ hold, World.keptBut_mono (fun p hp => ⟨hp, ?_⟩) (hb.frame (· ∈ before)), fun _ => ?_⟩
  · rw [hps, List.mem_append] at hp
    exact Or.inr hp
  · obtain ⟨_, _, _, _, _, hz, hn⟩ := hW
    refine ⟨hok, _, _, ([] ++ pa) ++ pv, ⟨[] ++ pa, pv, trodAll_append (hargs _ (fun _ _ => rfl)) (hres _ _ _), hvars _ (fun _ _ => rfl), rfl, ?_, ?_⟩, ?_⟩
    · intro b off hp
      have hin : MemPlace.cell b off ∈ before := by rw [hps]; simpa using hp
      rw [hb.frozen (hlt _ hin)]
      exact hz b off hin
    · intro ha
      have := hn ha
      rw [hps] at this
      simpa using this
    · intro p hp _
      rw [hps]
      simpa using hp
end

/-- A law's answer: true; old memory is as it was. -/
def Law (w : World) (e : Ending) (w' : World) : Prop := e = .returned (.bool true) ∧ Below w.heap.size w w'
theorem Law.mk {w w' : World} (h : Below w.heap.size w w') : Law w (.returned (.bool true)) w' := ⟨rfl, h⟩

section
variable {H : Type} {enc : TypeId × Value → H}
theorem laidOut : laidOutB Tryd.prog = true := by kernel_rfl
theorem trodAll_stays {P : Program} (hlo : laidOutB P = true) {W W' : World} (hb : Below W.heap.size W W') (sp : Nat → Bool) (ts : List TypeId) : ∀ (vs : List Value) (ds : List (DataW H)) (ps : List MemPlace),
    (∀ t ∈ ts, P.readableRec t = true ∧ t < P.types.size) → (∀ x ∈ ps, x.block < W.heap.size) → (∀ p ∈ ps, sp p.block = true) →
    DataW.TrodAll enc P W 0 (fun _ => true) true ts vs ds ps → DataW.TrodAll enc P W' 0 sp true ts vs ds ps := by
  induction ts with
  | nil =>
    intro vs ds ps _ _ _ h
    obtain ⟨rfl, rfl, rfl⟩ := trodAll_nil h
    exact trodAll_mk0
  | cons t ts ih =>
    intro vs ds ps ht hlt hsp h
    obtain ⟨v, vs', d, ds', p, q, rfl, rfl, rfl, h0, hr⟩ := trodAll_cons h
    have ht0 := ht t (by simp)
    exact trodAll_cons_mk (WideElems.Trod_stays hlo ht0.1 ht0.2 h0 (fun x hx => hb.same (hlt x (by simp [hx]))) (fun x hx => hsp x (by simp [hx])))
      (ih vs' ds' q (fun u hu => ht u (by simp [hu])) (fun x hx => hlt x (by simp [hx])) (fun x hx => hsp x (by simp [hx])) hr)

theorem blist : Value.resultList 1 (Value.bool true) = [Value.bool true] := by kernel_rfl
set_option maxRecDepth 100000 in
/-- What a law's walk gives is what its row asks. -/
theorem law_close {F : FuncId} {f : Func} {s : ChangeSpec} {W : World} {args : Array Value} {ds gs : List (DataW H)} {before : List MemPlace} (hvars : s.vars = []) (hrt : f.resultTypes = #[4])
    (hpar : (f.params.toList.all fun t => Tryd.prog.readableRec t && decide (t < Tryd.prog.types.size)) = true) (hfn : s.fn H ds = { results := [.lit (.bool true)], args := ds })
    (hW : DataW.Whole enc Tryd.prog f.params.toList s.vars false W args.toList ds gs before) (h : Calls Tryd.prog F args W (Law W)) :
    Calls Tryd.prog F args W fun e W' => ∃ v, e = .returned v ∧ s.post enc Tryd.prog f false true false false W args v W' := by
  refine h.mono fun e W' ⟨he, hb⟩ => ⟨_, he, ?_⟩
  have hW' := hW
  obtain ⟨p, q, hA, hV, rfl, hfz, hnd⟩ := hW
  have hlt : ∀ x ∈ p ++ q, x.block < W.heap.size := fun x hx => hW'.lt x hx
  rw [hvars] at hV
  obtain ⟨rfl, rfl⟩ := trodVars_none hV
  have hfn' : s.fn H (ds ++ []) = { results := [.lit (.bool true)], args := ds } := by rw [List.append_nil]; exact hfn
  refine post_of_below (pa := p) (pv := []) hW' ?_ ?_ ?_ rfl hb ?_
  · intro b sp hd
    rw [hfn', hrt]
    exact trodAll_mk1 (shut_bool Tryd.underlying4 true)
  · intro sp hsp
    rw [hfn']
    exact trodAll_stays laidOut hb sp _ _ _ _ (fun t ht => by have := List.all_eq_true.1 hpar t ht; rw [Bool.and_eq_true] at this; exact ⟨this.1, of_decide_eq_true this.2⟩) (fun x hx => hlt x (by simp [hx])) (fun x hx => hsp x (by simp [hx])) hA
  · intro sp _
    rw [hfn', hvars]
    rfl
  · exact ok_one hrt blist (okWide_bool_mk Tryd.underlying4 true)
end
end Go.Proofs.YtfdchnepaaampaaDoor
