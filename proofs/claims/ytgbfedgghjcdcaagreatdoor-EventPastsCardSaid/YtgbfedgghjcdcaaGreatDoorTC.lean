/- The tree evaluator, 18: regions that draw their order. No condition. -/
import Derived.Test.YtgbfedgghjcdcaaGreatDoorTB
import Derived.RangeFuncSeq
import Derived.ProofKit
import Derived.OpenShut
import Derived.Deep.Slices
import Derived.SizedLaws
import Derived.ChangeSame
import Derived.Carry
import Derived.Deep.DeepHandedRow
import Derived.Lib.LaidTab
import Derived.LaidMore
import Derived.LaidSub
import Derived.Lib.SmallJoins
namespace Go.Proofs.YtgbfedgghjcdcaaGreatDoor
set_option linter.unusedSimpArgs false
set_option linter.unusedVariables false
set_option linter.unusedSectionVars false
open Go.RowKit

/-- One step of the walk. -/
def StepR (g : Cfg) (C : CallF) (d : Option (List Nat)) (ops : Array Oper) (i : Nat) (o : Oper) (E : Env) (F : Fr) (E' : Env) (F' : Fr) : Prop :=
  match o.guard with
  | none => ∃ x ks, step g C d i E F o.op = some (x, F', ks) ∧ E' = updO (killE ks E) o.dst x
  | some (j, want) => (gOf ops E j want = some true ∧ ∃ x ks, step g C d i E F o.op = some (x, F', ks) ∧ E' = updO (killE ks E) o.dst (.yes x)) ∨ (gOf ops E j want = some false ∧ F' = F ∧ E' = updO E o.dst .no)
theorem ops_trace {g : Cfg} {C : CallF} {d : Option (List Nat)} {ops : Array Oper} {env' : Env} {fr' : Fr} : ∀ (l : List Oper) (n : Nat) (env : Env) (fr : Fr), evOps g C d ops n l env fr = some (env', fr') →
    ∃ (E : Nat → Env) (F : Nat → Fr), E 0 = env ∧ F 0 = fr ∧ (∀ i o, l[i]? = some o → StepR g C d ops (n + i) o (E i) (F i) (E (i + 1)) (F (i + 1))) ∧ E l.length = env' ∧ F l.length = fr'
  | [], n, env, fr, h => by
    unfold evOps at h
    cases h
    exact ⟨fun _ => env', fun _ => fr', rfl, rfl, fun i o ho => by simp at ho, rfl, rfl⟩
  | o :: l, n, env, fr, h => by
    have : ∃ e1 f1, StepR g C d ops n o env fr e1 f1 ∧ evOps g C d ops (n + 1) l e1 f1 = some (env', fr') := by
      unfold evOps at h
      unfold StepR
      split at h
      · rename_i hg
        rw [hg]
        split at h
        · rename_i x f1 ks hst; exact ⟨_, f1, ⟨x, ks, hst, rfl⟩, h⟩
        · cases h
      · rename_i j want hg
        rw [hg]
        split at h
        · cases h
        · rename_i hW
          split at h
          · rename_i x f1 ks hst; exact ⟨_, f1, .inl ⟨hW, x, ks, hst, rfl⟩, h⟩
          · cases h
        · rename_i hW; exact ⟨_, _, .inr ⟨hW, rfl, rfl⟩, h⟩
    obtain ⟨e1, f1, h1, h2⟩ := this
    obtain ⟨E, F, a1, a2, a3, a4, a5⟩ := ops_trace l (n + 1) e1 f1 h2
    refine ⟨fun i => match i with | 0 => env | i + 1 => E i, fun i => match i with | 0 => fr | i + 1 => F i, rfl, rfl, fun i o' ho' => ?_, a4, a5⟩
    cases i with
    | zero => cases ho'; show StepR g C d ops (n + 0) _ env fr (E 0) (F 0); rw [a1, a2]; exact h1
    | succ i =>
      have := a3 i o' (by simpa using ho')
      rw [Nat.add_assoc, Nat.add_comm 1 i] at this
      exact this
theorem callS_dr {g : Cfg} {C : CallF} {fr : Fr} {f : Nat} {args : List SV} {x : SV} {fr' : Fr} {ks : List Nat} (h : callS g C true fr f args = some (x, fr', ks)) : fr' = fr ∧ ks = [] := by
  unfold callS at h
  split at h
  · cases h
  · split at h
    · split at h
      · cases h
      · split at h
        · cases h; exact ⟨rfl, rfl⟩
        · simp only at h
          split at h
          · split at h
            · cases h; exact ⟨rfl, rfl⟩
            · split at h
              · cases h; exact ⟨rfl, rfl⟩
              · cases h
          · cases h
    · cases h
theorem evD_same {g : Cfg} {C : CallF} {env : Env} {fr : Fr} {op : Op} {x : SV} {fr' : Fr} {ks : List Nat} (h : evD g C env fr op = some (x, fr', ks)) : fr' = fr ∧ ks = [] := by
  unfold evD at h
  split at h
  · rename_i hc
    unfold isCall at hc
    split at hc
    · rename_i c args tys
      unfold evW at h
      simp only at h
      unfold callE at h
      split at h
      · cases h
      · exact callS_dr h
    · cases hc
  · obtain ⟨_, rfl, rfl⟩ := withFr_ok h
    exact ⟨rfl, rfl⟩
section
variable {g : Cfg} {γ : Glob} {κ : Ctx} {C : CallF} {ops : Array Oper} {effs : List Nat} {n : Nat} {E : Nat → Env} {F : Nat → Fr}
/-- What holds between two operations, whatever came up before: all ahead of b has come up, and what came up behind it left memory as it was. -/
structure Mid (γ : Glob) (κ : Ctx) (ops : Array Oper) (effs : List Nat) (n : Nat) (E : Nat → Env) (F : Nat → Fr) (b : Nat) (L : Ls) (listed : Array Bool) (a : Act) (w : World) : Prop where
  hd : Marks κ w a.defers
  hn : a.tmps.size = n
  hs : listed.size = ops.size
  hb : b ≤ ops.size
  low : ∀ k, k < b → listed.getD k true = true
  seg : ∀ k, b ≤ k → k < ops.size → listed.getD k true = true → ∀ e ∈ effs, b ≤ e → k < e
  core : Core γ κ (F b) L w
  done : ∀ (k : Nat) (o : Oper) (t : Nat), ops[k]? = some o → b ≤ k → o.dst = some t → listed.getD k true = true → SR (MA κ.M (F b) L) L w (E (k + 1) t) (a.tmps.getD t undef)
  rest : ∀ (t : Nat), (∀ (k : Nat) (o : Oper), ops[k]? = some o → b ≤ k → o.dst = some t → listed.getD k true = false) → SR (MA κ.M (F b) L) L w (E b t) (a.tmps.getD t undef)
  clos : ∀ (k : Nat) (o : Oper), ops[k]? = some o → listed.getD k true = true → ∀ e ∈ o.after, Region.binds .any e = true → listed.getD e.on false = true
abbrev Steps (g : Cfg) (C : CallF) (ops : Array Oper) (effs : List Nat) (E : Nat → Env) (F : Nat → Fr) : Prop := ∀ (i : Nat) (o : Oper), ops[i]? = some o → StepR g C (some effs) ops i o (E i) (F i) (E (i + 1)) (F (i + 1))
/-- An operation that is no effect leaves the list, and all slots but its own. -/
theorem Steps.neu (hE : Steps g C ops effs E F) {i : Nat} {o : Oper} (ho : ops[i]? = some o) (hi : i ∉ effs) : F (i + 1) = F i ∧ ∀ t, o.dst ≠ some t → E (i + 1) t = E i t := by
  have h := hE i o ho
  have hD : ∀ {x ks}, step g C (some effs) i (E i) (F i) o.op = some (x, F (i + 1), ks) → F (i + 1) = F i ∧ ks = [] := fun {x ks} h => by
    unfold step at h
    simp only [hasN_not.2 hi] at h
    exact evD_same h
  unfold StepR at h
  split at h
  · obtain ⟨x, ks, h1, h2⟩ := h
    obtain ⟨h3, rfl⟩ := hD h1
    exact ⟨h3, fun t ht => by rw [h2, updO_off ht]; rfl⟩
  · rcases h with ⟨_, x, ks, h1, h2⟩ | ⟨_, h1, h2⟩
    · obtain ⟨h3, rfl⟩ := hD h1
      exact ⟨h3, fun t ht => by rw [h2, updO_off ht]; rfl⟩
    · exact ⟨h1, fun t ht => by rw [h2, updO_off ht]⟩
theorem F_const (hE : Steps g C ops effs E F) {b : Nat} : ∀ i, b ≤ i → i ≤ ops.size → (∀ m, b ≤ m → m < i → m ∉ effs) → F i = F b
  | 0, h, _, _ => by obtain rfl : b = 0 := by omega
                     rfl
  | i + 1, h, hi, hm => by
    rcases Nat.lt_or_ge i b with h1 | h1
    · obtain rfl : b = i + 1 := by omega
      rfl
    · rw [(hE.neu (Array.getElem?_eq_getElem (by omega)) (hm i h1 (by omega))).1]
      exact F_const hE i h1 (by omega) fun m h2 h3 => hm m h2 (by omega)
theorem E_mono (hE : Steps g C ops effs E F) (t b : Nat) : ∀ i, b ≤ i → i ≤ ops.size → (∀ m, b ≤ m → m < i → m ∉ effs) → (∀ (k : Nat) (o : Oper), b ≤ k → k < i → ops[k]? = some o → o.dst ≠ some t) → E i t = E b t
  | 0, h, _, _, _ => by obtain rfl : b = 0 := by omega
                        rfl
  | i + 1, h, hi, hm, hk => by
    rcases Nat.lt_or_ge i b with h1 | h1
    · obtain rfl : b = i + 1 := by omega
      rfl
    · rw [(hE.neu (Array.getElem?_eq_getElem (by omega)) (hm i h1 (by omega))).2 t (hk i _ h1 (by omega) (Array.getElem?_eq_getElem (by omega)))]
      exact E_mono hE t b i h1 (by omega) (fun m h2 h3 => hm m h2 (by omega)) fun k o hjk hki => hk k o hjk (by omega)
variable {b : Nat} {L : Ls} {listed : Array Bool} {a : Act} {w : World}
theorem Mid.start (hd : Marks κ w a.defers) (hn : a.tmps.size = n) (hC : Core γ κ (F 0) L w) (hV : ∀ t, SR (MA κ.M (F 0) L) L w (E 0 t) (a.tmps.getD t undef)) : Mid γ κ ops effs n E F 0 L (Array.replicate ops.size false) a w where
  hd := hd
  hn := hn
  hs := by simp
  hb := Nat.zero_le _
  low := fun k hk => by omega
  seg := fun k _ hk hl => by
    rw [Array.getD_eq_getD_getElem?, Array.getElem?_replicate, if_pos hk] at hl
    cases hl
  core := hC
  done := fun k o t ho _ _ hl => by
    have hk := (Array.getElem?_eq_some_iff.1 ho).1
    rw [Array.getD_eq_getD_getElem?, Array.getElem?_replicate, if_pos hk] at hl
    cases hl
  rest := fun t _ => hV t
  clos := fun k o ho hl => by
    have hk := (Array.getElem?_eq_some_iff.1 ho).1
    rw [Array.getD_eq_getD_getElem?, Array.getElem?_replicate, if_pos hk] at hl
    cases hl
theorem Mid.slot (hok : DrawOk ops effs) (hE : Steps g C ops effs E F) (h : Mid γ κ ops effs n E F b L listed a w)
    {i : Nat} {t : Nat} (hbi : b ≤ i) (hi : i ≤ ops.size) (hm : ∀ m, b ≤ m → m < i → m ∉ effs) (h1 : ∀ (k : Nat) (ok : Oper), ops[k]? = some ok → b ≤ k → ok.dst = some t → listed.getD k true = true → k < i) (h2 : ∀ (k : Nat) (ok : Oper), ops[k]? = some ok → b ≤ k → ok.dst = some t → listed.getD k true = false → i ≤ k) : SR (MA κ.M (F b) L) L w (E i t) (a.tmps.getD t undef) := by
  by_cases hex : ∃ (k : Nat) (ok : Oper), ops[k]? = some ok ∧ b ≤ k ∧ ok.dst = some t ∧ listed.getD k true = true
  · obtain ⟨k, ok, hk, hbk, hd, hl⟩ := hex
    have hki := h1 k ok hk hbk hd hl
    rw [E_mono hE t (k + 1) i (by omega) hi (fun m h2 h3 => hm m (by omega) h3) fun m om hm1 hm2 hm3 => hok.dst m om k ok t hm3 hk (by omega) hd]
    exact h.done k ok t hk hbk hd hl
  · have hno : ∀ (k : Nat) (o : Oper), ops[k]? = some o → b ≤ k → o.dst = some t → listed.getD k true = false := fun k o hk hbk hd => by
      rw [← Bool.not_eq_true]; exact fun hl => hex ⟨k, o, hk, hbk, hd, hl⟩
    rw [E_mono hE t b i hbi hi hm fun k o hbk hki hk hd => by have := h2 k o hk hbk hd (hno k o hk hbk hd); omega]
    exact h.rest t hno
theorem Mid.anc (h : Mid γ κ ops effs n E F b L listed a w) {i k : Nat} (ha : Anc ops i k) : (∀ (o : Oper), ops[i]? = some o → ∀ e ∈ o.after, Region.binds .any e = true → listed.getD e.on false = true) → listed.getD k true = true := by
  induction ha with
  | one i o e ho he hb => intro hi; exact getD_false (hi o ho e he hb)
  | more i k o e ho he hb ha ih =>
    intro hi
    have h1 := getD_false (hi o ho e he hb)
    exact ih fun o' ho' => h.clos e.on o' ho' h1
theorem all_listed (hok : DrawOk ops effs) {listed : Array Bool} (hs : listed.size = ops.size) (hr : Region.ready .any ops listed = []) : ∀ k, k < ops.size → listed.getD k true = true := by
  intro k
  induction k using Nat.strongRecOn with
  | _ k ih =>
    intro hk
    rw [← Bool.not_eq_false]
    intro hl
    have hm : k ∈ Region.ready .any ops listed := mem_ready.2 ⟨hl, ops[k], Array.getElem?_eq_getElem hk, fun e he hb => by
      have hlt := hok.back k _ (Array.getElem?_eq_getElem hk) e he hb
      exact getD_true (by rw [hs]; omega) (ih e.on hlt (by omega))⟩
    rw [hr] at hm
    cases hm
/-- Behind an operation that leaves memory as it is. -/
theorem Mid.put (hok : DrawOk ops effs) (h : Mid γ κ ops effs n E F b L listed a w) {w' : World} {i : Nat} {o : Oper} (ho : ops[i]? = some o) (hli : listed.getD i true = false) (hbi : b ≤ i) (hie : i ∉ effs) (hno : ∀ e ∈ effs, b ≤ e → i < e) (hedge : ∀ e ∈ o.after, Region.binds .any e = true → listed.getD e.on false = true)
    (hdst : ∀ d, o.dst = some d → d < n) {v : Value} {L' : Ls} (hT : Tr κ.M (F b) L w (F b) L' w' []) (hC' : Core γ κ (F b) L' w') (hv : ∀ t, o.dst = some t → SR (MA κ.M (F b) L') L' w' (E (i + 1) t) v) : Mid γ κ ops effs n E F b L' (listed.setIfInBounds i true) (a.put o.dst v) w' where
  hd := by rw [put_defers]; exact h.hd.tr h.core hT
  hn := by rw [put_size, h.hn]
  hs := by rw [Array.size_setIfInBounds]; exact h.hs
  hb := h.hb
  low := fun k hk => by rw [getD_set_ne true (by omega)]; exact h.low k hk
  seg := fun k hbk hk hl e he hbe => by
    by_cases hki : k = i
    · subst hki; exact hno e he hbe
    · rw [getD_set_ne true (Ne.symm hki)] at hl
      exact h.seg k hbk hk hl e he hbe
  core := hC'
  done := fun k ok t hk hbk hd hl => by
    by_cases hki : k = i
    · subst hki
      rw [ho] at hk; cases hk
      rw [hd, put_at (by rw [h.hn]; exact hdst t hd)]
      exact hv t hd
    · rw [put_off (hok.dst i o k ok t ho hk hki hd)]
      rw [getD_set_ne true (Ne.symm hki)] at hl
      exact hT.sr (h.done k ok t hk hbk hd hl)
  rest := fun t ht => by
    have hi : o.dst ≠ some t := fun hd => by
      have hlt : i < listed.size := by rw [h.hs]; exact (Array.getElem?_eq_some_iff.1 ho).1
      have := ht i o ho hbi hd
      rw [Array.getD_eq_getD_getElem?, Array.getElem?_setIfInBounds_self_of_lt hlt] at this
      cases this
    rw [put_off hi]
    refine hT.sr (h.rest t fun k ok hk hbk hd => ?_)
    have hki : k ≠ i := fun e => by subst e; rw [ho] at hk; cases hk; exact hi hd
    have := ht k ok hk hbk hd
    rw [getD_set_ne true (Ne.symm hki)] at this
    exact this
  clos := fun k ok hk hl e he hb' => by
    by_cases hki : k = i
    · subst hki
      rw [ho] at hk; cases hk
      exact getD_set_true (hedge e he hb')
    · rw [getD_set_ne true (Ne.symm hki)] at hl
      exact getD_set_true (h.clos k ok hk hl e he hb')
/-- Behind an effect: all ahead of it has come up, and nothing behind it. -/
theorem Mid.jump (h : Mid γ κ ops effs n E F b L listed a w) {w' : World} {i : Nat} {o : Oper} (ho : ops[i]? = some o) (hlo : ∀ k, k < i → listed.getD k true = true) (hhi : ∀ k, i < k → k < ops.size → listed.getD k true = false) (hedge : ∀ e ∈ o.after, Region.binds .any e = true → listed.getD e.on false = true)
    {v : Value} {L' : Ls} (hd : Marks κ w' a.defers) (hC' : Core γ κ (F (i + 1)) L' w') (hV : ∀ t, SR (MA κ.M (F (i + 1)) L') L' w' (E (i + 1) t) ((a.put o.dst v).tmps.getD t undef)) : Mid γ κ ops effs n E F (i + 1) L' (listed.setIfInBounds i true) (a.put o.dst v) w' where
  hd := by rw [put_defers]; exact hd
  hn := by rw [put_size, h.hn]
  hs := by rw [Array.size_setIfInBounds]; exact h.hs
  hb := (Array.getElem?_eq_some_iff.1 ho).1
  low := fun k hk => by
    by_cases hki : k = i
    · subst hki
      have hlt : k < listed.size := by rw [h.hs]; exact (Array.getElem?_eq_some_iff.1 ho).1
      rw [Array.getD_eq_getD_getElem?, Array.getElem?_setIfInBounds_self_of_lt hlt]; rfl
    · rw [getD_set_ne true (Ne.symm hki)]; exact hlo k (by omega)
  seg := fun k hbk hk hl => by
    rw [getD_set_ne true (by omega), hhi k (by omega) hk] at hl
    cases hl
  core := hC'
  done := fun k ok t hk hbk hd hl => by
    rw [getD_set_ne true (by omega), hhi k (by omega) (Array.getElem?_eq_some_iff.1 hk).1] at hl
    cases hl
  rest := fun t _ => hV t
  clos := fun k ok hk hl e he hb' => by
    by_cases hki : k = i
    · subst hki
      rw [ho] at hk; cases hk
      exact getD_set_true (hedge e he hb')
    · rw [getD_set_ne true (Ne.symm hki)] at hl
      exact getD_set_true (h.clos k ok hk hl e he hb')
theorem wpAny_mid {rd : Option Nat} {dn : Nat} (hS : CallSnd g.P γ C) (hok : DrawOk ops effs) (hdst : dstOk n ops.toList = true) (hE : Steps g C ops effs E F) {Q : Exit → Act → World → Prop}
    (hK : ∀ L a w, Marks κ w a.defers → a.tmps.size = n → Core γ κ (F ops.size) L w → (∀ t, SR (MA κ.M (F ops.size) L) L w (E ops.size t) (a.tmps.getD t undef)) → Q .normal a w) :
    ∀ (fuel : Nat) (b : Nat) (L : Ls) (listed : Array Bool) (a : Act) (w : World), un' listed ops.size ≤ fuel → Mid γ κ ops effs n E F b L listed a w → wpAnyIn (Fw rd) dn g.P .any ops Q fuel listed a w := by
  have hdst' : ∀ (i : Nat) (o : Oper), ops[i]? = some o → ∀ d, o.dst = some d → d < n := fun i o ho d hd => dst_lt hdst (Array.mem_toList_iff.2 (Array.mem_of_getElem? ho)) hd
  have fin : ∀ (b : Nat) (L : Ls) (listed : Array Bool) (a : Act) (w : World), (∀ k, k < ops.size → listed.getD k true = true) → Mid γ κ ops effs n E F b L listed a w → Q .normal a w := fun b L listed a w hall h => by
    have hm : ∀ m, b ≤ m → m < ops.size → m ∉ effs := fun m h1 h2 h3 => Nat.lt_irrefl _ (h.seg m h1 h2 (hall m h2) m h3 h1)
    have hF := F_const hE ops.size h.hb (Nat.le_refl _) hm
    refine hK L a w h.hd h.hn (by rw [hF]; exact h.core) fun t => ?_
    rw [hF]
    exact h.slot hok hE h.hb (Nat.le_refl _) hm (fun k ok hk _ _ _ => (Array.getElem?_eq_some_iff.1 hk).1) (fun k ok hk _ _ hl => by
      have := hall k (Array.getElem?_eq_some_iff.1 hk).1
      rw [hl] at this; cases this)
  intro fuel
  induction fuel with
  | zero =>
    intro b L listed a w hu h
    have hall := un_zero (listed := listed) ops.size (by omega)
    refine ⟨?_, fin b L listed a w hall h⟩
    cases hr : Region.ready .any ops listed with
    | nil => rfl
    | cons i l =>
      have hm : i ∈ Region.ready .any ops listed := by rw [hr]; simp
      obtain ⟨hl, o, ho, _⟩ := mem_ready.1 hm
      have := hall i (Array.getElem?_eq_some_iff.1 ho).1
      rw [hl] at this; cases this
  | succ fuel ih =>
    intro b L listed a w hu h
    refine ⟨fun hr => fin b L listed a w (all_listed hok h.hs hr) h, fun i hi => ?_⟩
    obtain ⟨hl, o, ho, hedge⟩ := mem_ready.1 hi
    have hisz := (Array.getElem?_eq_some_iff.1 ho).1
    have hst := hE i o ho
    have hu' : un' (listed.setIfInBounds i true) ops.size ≤ fuel := by
      have := un_set hl ops.size
      rw [if_pos hisz] at this
      omega
    have hbi : b ≤ i := by
      rcases Nat.lt_or_ge i b with h1 | h1
      · have := h.low i h1; rw [hl] at this; cases this
      · exact h1
    have hready : ∀ k, Anc ops i k → listed.getD k true = true := fun k ha => h.anc ha fun o' ho' => by rw [ho] at ho'; cases ho'; exact hedge
    have hno : ∀ e ∈ effs, b ≤ e → ¬ e < i := fun e he hbe hlt => by
      have h1 := hready e ((hok.eff e he i hisz).2 hlt)
      exact Nat.lt_irrefl _ (h.seg e hbe (by omega) h1 e he hbe)
    have hm : ∀ m, b ≤ m → m < i → m ∉ effs := fun m h1 h2 h3 => hno m h3 h1 h2
    have hF : F i = F b := F_const hE i hbi (by omega) hm
    have edge : ∀ k, hasEdge o k = true → listed.getD k true = true ∧ k < i := fun k hk => by
      obtain ⟨e, he, hb, rfl⟩ := hasEdge_iff hk
      exact ⟨getD_false (hedge e he hb), hok.back i o ho e he hb⟩
    have hop : ∀ y ∈ o.op.operands, SR (MA κ.M (F i) L) L w (evE (E i) y) (a.eval y) := fun y hy => by
      rw [hF]
      cases y with
      | const v => exact cv_ok v
      | global g => exact .dead _
      | func f => exact .t _ _ (.fn _ [] #[] #[] rfl (fun j x u hx _ => by simp at hx))
      | tmp t =>
        refine h.slot hok hE hbi (by omega) hm (fun k ok hk hbk hd hlk => ?_) (fun k ok hk hbk hd hlk => ?_)
        · have hki : k ≠ i := fun e => by subst e; rw [hl] at hlk; cases hlk
          rcases hok.use i o k ok t ho hk hki hd hy with h1 | h1
          · exact (edge k h1).2
          · obtain ⟨e, he, hb, rfl⟩ := hasEdge_iff h1
            have := getD_false (h.clos k ok hk hlk e he hb)
            rw [hl] at this; cases this
        · rcases Nat.lt_or_ge k i with hlt | hge
          · rcases hok.use i o k ok t ho hk (by omega) hd hy with h1 | h1
            · have := (edge k h1).1
              rw [hlk] at this; cases this
            · obtain ⟨e, he, hb, rfl⟩ := hasEdge_iff h1
              have := hok.back k ok hk e he hb
              omega
          · exact hge
    have hCi : Core γ κ (F i) L w := by rw [hF]; exact h.core
    -- what comes behind this operation, once it is carried out
    have next : ∀ (v : Value) (w' : World) (L' : Ls) (x : SV) (ks : List Nat), Tr κ.M (F i) L w (F (i + 1)) L' w' ks → Core γ κ (F (i + 1)) L' w' → SR (MA κ.M (F (i + 1)) L') L' w' x v → E (i + 1) = updO (killE ks (E i)) o.dst x → (i ∉ effs → ks = []) → wpAnyIn (Fw rd) dn g.P .any ops Q fuel (listed.setIfInBounds i true) (a.put o.dst v) w' := fun v w' L' x ks hT hC' hv hEi hks => by
      by_cases hie : i ∈ effs
      · have hlo : ∀ k, k < i → listed.getD k true = true := fun k hk => hready k ((hok.eff i hie k (by omega)).1 hk)
        have hhi : ∀ k, i < k → k < ops.size → listed.getD k true = false := fun k hk hks => by
          rw [← Bool.not_eq_true]
          intro hlk
          have := h.anc ((hok.eff i hie k hks).2 hk) fun o' ho' => h.clos k o' ho' hlk
          rw [hl] at this; cases this
        refine ih _ _ _ _ _ hu' (h.jump ho hlo hhi hedge (h.hd.tr hCi hT) hC' fun t => ?_)
        rw [hEi]
        refine put_rel (fun t => ?_) hv (fun k hk => by rw [h.hn]; exact hdst' i o ho k hk) t
        refine hT.env ?_
        rw [hF]
        refine h.slot hok hE hbi (by omega) hm (fun k ok hk _ _ hlk => ?_) (fun k ok hk _ _ hlk => ?_)
        · have := (Array.getElem?_eq_some_iff.1 hk).1
          rcases Nat.lt_trichotomy k i with h1 | h1 | h1
          · exact h1
          · subst h1; rw [hl] at hlk; cases hlk
          · rw [hhi k h1 this] at hlk; cases hlk
        · rcases Nat.lt_or_ge k i with h1 | h1
          · rw [hlo k h1] at hlk; cases hlk
          · exact h1
      · obtain ⟨hF', _⟩ := hE.neu ho hie
        rw [hF', hF] at hT hC' hv
        obtain rfl := hks hie
        refine ih _ _ _ _ _ hu' (h.put hok ho hl hbi hie (fun e he hbe => ?_) hedge (hdst' i o ho) hT hC' fun t ht => ?_)
        · have := hno e he hbe
          have : e ≠ i := fun h => hie (by rw [← h]; exact he)
          omega
        · rw [hEi, ht]
          show SR _ _ _ (upd _ t x t) v
          rw [upd_same]
          exact hv
    have ksNil : ∀ {x : SV} {f1 : Fr} {ks : List Nat}, step g C (some effs) i (E i) (F i) o.op = some (x, f1, ks) → i ∉ effs → ks = [] := fun {x f1 ks} hst hie => by
      unfold step at hst
      simp only [hasN_not.2 hie] at hst
      exact (evD_same hst).2
    unfold wpOpIn
    simp only [ho]
    unfold StepR at hst
    cases hg : o.guard with
    | none =>
      rw [hg] at hst
      obtain ⟨x, ks, hst, hEi⟩ := hst
      rw [if_pos (by simp [Region.wanted, hg])]
      exact (step_ok hS hst κ L a w hCi hop).wpIn fun v w' ⟨L', hT, hC', hv⟩ => next v w' L' x ks hT hC' hv hEi (ksNil hst)
    | some gj =>
      obtain ⟨j, want⟩ := gj
      rw [hg] at hst
      obtain ⟨hlj, hji⟩ := edge j (hok.guard i o j want ho hg)
      have hwt : ∀ W, gOf ops (E i) j want = some W → Region.wanted o (yielded ops a.tmps) = W := fun W hW => wanted_of (A := MA κ.M (F b) L) (L := L) (w := w) hg hW fun d hdd => by
        cases hoj : ops[j]? with
        | none => rw [hoj] at hdd; cases hdd
        | some oj =>
          rw [hoj] at hdd
          have hdj : oj.dst = some d := hdd
          refine ⟨?_, by rw [h.hn]; exact hdst' j oj hoj d hdj⟩
          refine h.slot hok hE hbi (by omega) hm (fun k ok hk hbk hd hlk => ?_) (fun k ok hk hbk hd hlk => ?_)
          · rcases Nat.lt_or_ge k j with h1 | h1
            · omega
            · rcases Nat.eq_or_lt_of_le h1 with h2 | h2
              · omega
              · exact absurd hdj (hok.dst j oj k ok d hoj hk (by omega) hd)
          · by_cases hkj : k = j
            · subst hkj; rw [hlj] at hlk; cases hlk
            · exact absurd hdj (hok.dst j oj k ok d hoj hk hkj hd)
      rcases hst with ⟨hW, x, ks, hst, hEi⟩ | ⟨hW, hFi, hEi⟩
      · rw [hwt _ hW, if_pos rfl]
        exact (step_ok hS hst κ L a w hCi hop).wpIn fun v w' ⟨L', hT, hC', hv⟩ => next v w' L' (.yes x) ks hT hC' (.yes _ _ hv) hEi (ksNil hst)
      · rw [hwt _ hW, if_neg (by simp)]
        exact ⟨fun _ _ => trivial, next undef w L .no [] (by rw [hFi]; exact Tr.refl) (by rw [hFi]; exact hCi) .no hEi (fun _ => rfl)⟩
end
end Go.Proofs.YtgbfedgghjcdcaaGreatDoor

/- The tree evaluator, 18b: regions that draw their order, with operations that float past effects. No condition. -/
namespace Go.Proofs.YtgbfedgghjcdcaaGreatDoor
set_option linter.unusedSimpArgs false
set_option linter.unusedVariables false
set_option linter.unusedSectionVars false
open Go.RowKit

/-- One step of the walk, where operations float. -/
def StepF (g : Cfg) (C : CallF) (effs : List Nat) (ops : Array Oper) (i : Nat) (o : Oper) (E : Env) (F : Fr) (E' : Env) (F' : Fr) : Prop :=
  fltM effs ops E i = true ∧ match o.guard with
  | none => ∃ x, step g C (some effs) i E F o.op = some (x, F', []) ∧ E' = updO E o.dst x
  | some (j, want) => (gOf ops E j want = some true ∧ ∃ x, step g C (some effs) i E F o.op = some (x, F', []) ∧ E' = updO E o.dst (.yes x)) ∨ (gOf ops E j want = some false ∧ F' = F ∧ E' = updO E o.dst .no)
theorem opsF_trace {g : Cfg} {C : CallF} {effs : List Nat} {ops : Array Oper} {env' : Env} {fr' : Fr} : ∀ (l : List Oper) (n : Nat) (env : Env) (fr : Fr), evOpsF g C effs ops n l env fr = some (env', fr') →
    ∃ (E : Nat → Env) (F : Nat → Fr), E 0 = env ∧ F 0 = fr ∧ (∀ i o, l[i]? = some o → StepF g C effs ops (n + i) o (E i) (F i) (E (i + 1)) (F (i + 1))) ∧ E l.length = env' ∧ F l.length = fr'
  | [], n, env, fr, h => by
    unfold evOpsF at h
    cases h
    exact ⟨fun _ => env', fun _ => fr', rfl, rfl, fun i o ho => by simp at ho, rfl, rfl⟩
  | o :: l, n, env, fr, h => by
    have : ∃ e1 f1, StepF g C effs ops n o env fr e1 f1 ∧ evOpsF g C effs ops (n + 1) l e1 f1 = some (env', fr') := by
      unfold evOpsF at h
      unfold StepF
      split at h
      · cases h
      · rename_i hfl
        split at h
        · rename_i hg
          rw [hg]
          split at h
          · rename_i x f1 hst; exact ⟨_, f1, ⟨hfl, x, hst, rfl⟩, h⟩
          · cases h
        · rename_i j want hg
          rw [hg]
          split at h
          · cases h
          · rename_i hW
            split at h
            · rename_i x f1 hst; exact ⟨_, f1, ⟨hfl, .inl ⟨hW, x, hst, rfl⟩⟩, h⟩
            · cases h
          · rename_i hW; exact ⟨_, _, ⟨hfl, .inr ⟨hW, rfl, rfl⟩⟩, h⟩
    obtain ⟨e1, f1, h1, h2⟩ := this
    obtain ⟨E, F, a1, a2, a3, a4, a5⟩ := opsF_trace l (n + 1) e1 f1 h2
    refine ⟨fun i => match i with | 0 => env | i + 1 => E i, fun i => match i with | 0 => fr | i + 1 => F i, rfl, rfl, fun i o' ho' => ?_, a4, a5⟩
    cases i with
    | zero => cases ho'; show StepF g C effs ops (n + 0) _ env fr (E 0) (F 0); rw [a1, a2]; exact h1
    | succ i =>
      have := a3 i o' (by simpa using ho')
      rw [Nat.add_assoc, Nat.add_comm 1 i] at this
      exact this
/-! what operations read and write -/
theorem loadS_same {P : Program} {t : Nat} {x : SV} {fr fr' : Fr} (h : ∀ b, ((∃ j, x = .lp b j) ∨ ∃ sz k j, x = .le b sz k j) → fr[b]? = fr'[b]?) : loadS P fr t x = loadS P fr' t x := by
  unfold loadS
  cases x with
  | lp i j => simp only [h i (.inl ⟨j, rfl⟩)]
  | le i sz k j => simp only [h i (.inr ⟨sz, k, j, rfl⟩)]
  | t y => cases y <;> rfl
  | _ => rfl
theorem indexAddrS_same {P : Program} {t : Nat} {x i : SV} {fr fr' : Fr} (hv : ∀ b sz a n, x ≠ .lv b sz a n) (h : ∀ b, x = .ls b → fr[b]? = fr'[b]?) : indexAddrS P fr t x i = indexAddrS P fr' t x i := by
  unfold indexAddrS
  cases x with
  | lv b sz a n => exact absurd rfl (hv b sz a n)
  | ls r => simp only [h r rfl]
  | t y => cases y <;> rfl
  | _ => rfl
theorem rdB_load {env : Env} {t : Nat} {y : Operand} {rl : List Nat} (h : rdB env (.load t y) = some rl) : ∀ b, (((∃ j, rd env y = .lp b j) ∨ ∃ sz k j, rd env y = .le b sz k j) → rl = [b]) := by
  intro b hb
  have h : (match rd env y with | .lp i _ => some [i] | .le i _ _ _ => some [i] | _ => some []) = some rl := h
  rcases hb with ⟨j, e⟩ | ⟨sz, k, j, e⟩
  · rw [e] at h; cases h; rfl
  · rw [e] at h; cases h; rfl
theorem rdB_load0 {env : Env} {t : Nat} {y : Operand} {rl : List Nat} (h : rdB env (.load t y) = some rl) : ∀ b ∈ rl, (∃ j, rd env y = .lp b j) ∨ ∃ sz k j, rd env y = .le b sz k j := by
  intro b hb
  have h : (match rd env y with | .lp i _ => some [i] | .le i _ _ _ => some [i] | _ => some []) = some rl := h
  cases hy : rd env y with
  | lp i j => rw [hy] at h; cases h; obtain rfl : b = i := by simpa using hb
              exact .inl ⟨j, rfl⟩
  | le i sz k j => rw [hy] at h; cases h; obtain rfl : b = i := by simpa using hb
                   exact .inr ⟨sz, k, j, rfl⟩
  | _ => rw [hy] at h; cases h; cases hb
theorem rdB_ix {env : Env} {t : Nat} {x i : Operand} {rl : List Nat} (h : rdB env (.indexAddr t x i) = some rl) : (∀ b, rd env x = .ls b → rl = [b]) ∧ ∀ b ∈ rl, rd env x = .ls b := by
  have h : (match rd env x with | .ls i => some [i] | .lv .. => none | _ => some []) = some rl := h
  refine ⟨fun b e => by rw [e] at h; cases h; rfl, fun b hb => ?_⟩
  cases hx : rd env x with
  | ls i => rw [hx] at h; cases h; obtain rfl : b = i := by simpa using hb
            rfl
  | lv b sz a n => rw [hx] at h; cases h
  | _ => rw [hx] at h; cases h; cases hb
theorem rdB_ixv {env : Env} {t : Nat} {x i : Operand} {rl : List Nat} (h : rdB env (.indexAddr t x i) = some rl) : ∀ b sz a n, rd env x ≠ .lv b sz a n := fun b sz a n e => by
  have h : (match rd env x with | .ls i => some [i] | .lv .. => none | _ => some []) = some rl := h
  rw [e] at h; cases h
theorem rdB_bin {env : Env} {b : BinOp} {xt yt : TypeId} {x y : Operand} {rl : List Nat} (h : rdB env (.binOp b xt x y yt) = some rl) : rl = [] ∧ ∀ i, rd env x ≠ .ls i := by
  have h : (match rd env x with | .ls _ => none | _ => some []) = some rl := h
  cases hx : rd env x with
  | ls i => rw [hx] at h; cases h
  | _ => rw [hx] at h; cases h; exact ⟨rfl, fun i e => by cases e⟩
theorem binO_same {P : Program} {b : BinOp} {t : Nat} {s s' : SV} {fr fr' : Fr} (h : ∀ i, s ≠ .ls i) : binO P fr b t s s' = binO P fr' b t s s' := by
  unfold binO
  cases s with
  | ls i => exact absurd rfl (h i)
  | lv i sz a n => cases s' <;> cases n <;> rfl
  | _ => rfl
theorem rchs_trees {fr : Fr} : ∀ {cs : List SV}, cs.all isTr = true → rchs fr cs = []
  | [], _ => rfl
  | c :: cs, h => by
    rw [List.all_cons, Bool.and_eq_true] at h
    rw [rchs, rchs_trees h.2]
    cases c <;> first | rfl | (have h1 : false = true := h.1; cases h1)
theorem rdB_call {env : Env} {c : Call} {rl : List Nat} (h : rdB env (.call c) = some rl) : rl = [] ∧ ∃ f args tys g pa qa, c = ⟨.value f, args, tys⟩ ∧ calleeS (rd env f) = some (g, pa, qa) ∧ (pa ++ args.toList.map (rd env) ++ qa).all isTr = true := by
  obtain ⟨callee, args, tys⟩ := c
  cases callee
  case value f =>
    unfold rdB at h
    simp only at h
    split at h
    · rename_i g pa qa hc
      split at h
      · rename_i hall
        cases h
        exact ⟨rfl, f, args, tys, g, pa, qa, rfl, hc, hall⟩
      · cases h
    · cases h
  all_goals (have h : none = some rl := h; cases h)
theorem toAVs_trees {fr fr' : Fr} : ∀ {l : List SV}, l.all isTr = true → toAVs fr l = toAVs fr' l
  | [], _ => rfl
  | c :: l, h => by
    rw [List.all_cons, Bool.and_eq_true] at h
    rw [toAVs, toAVs, toAVs_trees (fr' := fr') h.2]
    cases c <;> first | rfl | (have h1 : false = true := h.1; cases h1)
theorem treeArgs_all : ∀ (bs : List Bool) {l : List SV}, l.all isTr = true → (treeArgs bs l).all isTr = true
  | [], l, h => by cases l <;> rfl
  | b :: _, [], h => by cases b <;> rfl
  | b :: bs, c :: l, h => by
    rw [List.all_cons, Bool.and_eq_true] at h
    have ih := treeArgs_all bs h.2
    cases b with
    | true => exact ih
    | false => show ((c :: treeArgs bs l).all isTr) = true; rw [List.all_cons, h.1, ih]; rfl
theorem callS_trees {g : Cfg} {C : CallF} {fr fr2 : Fr} {f : Nat} {args : List SV} {x : SV} {ks : List Nat} (hall : args.all isTr = true) (h : callS g C true fr f args = some (x, fr, ks)) : callS g C true fr2 f args = some (x, fr2, ks) := by
  have ht := treeArgs_all (handL g f 0 args) hall
  unfold callS at h ⊢
  rw [toAVs_trees (fr' := fr2) ht] at h
  rw [rchs_trees ht] at h ⊢
  split at h
  · cases h
  · rename_i xs hxs
    try simp only [hxs]
    split at h
    · rename_i hh
      try simp only [hh]
      split at h
      · cases h
      · rename_i r ex hc
        try simp only [hc]
        split at h
        · rename_i hf
          cases h
          try simp only [hf]
        · rename_i hf
          try simp only [hf]
          try simp only at h
          split at h
          · rename_i hr; cases h; simp only [hr]
          · rename_i hr
            split at h
            · rename_i y hy; cases h; first | simp only [hy] | (split <;> simp_all)
            · cases h
    · cases h
theorem rdB_same {P : Program} {env : Env} {op : Op} {rl : List Nat} {fr fr' : Fr} (h : rdB env op = some rl) (ha : ∀ b ∈ rl, fr[b]? = fr'[b]?) : evP P fr env op = evP P fr' env op := by
  cases op
  case load t y => exact loadS_same fun b hb => ha b (by rw [rdB_load h b hb]; simp)
  case binOp b xt x y yt =>
    have := binO_same (P := P) (b := b) (t := xt) (s' := rd env y) (fr := fr) (fr' := fr') (rdB_bin h).2
    unfold evP
    simp only [this]
  case indexAddr t x i => exact indexAddrS_same (rdB_ixv h) fun b hb => ha b (by rw [(rdB_ix h).1 b hb]; simp)
  case call c =>
    obtain ⟨callee, args, tys⟩ := c
    cases callee
    case value f => rfl
    all_goals (have h : none = some rl := h; cases h)
  all_goals first
    | rfl
    | (have h : none = some rl := h; cases h)
theorem rdB_lt {P : Program} {env : Env} {op : Op} {rl : List Nat} {fr : Fr} {x : SV} (h : rdB env op = some rl) (hx : evP P fr env op = some x) : ∀ b ∈ rl, b < fr.length := by
  intro b hb
  cases op
  case load t y =>
    have hx : loadS P fr t (rd env y) = some x := hx
    unfold loadS at hx
    cases hf : fr[b]? with
    | some lb => exact lt_of_get hf
    | none =>
      rcases rdB_load0 h b hb with ⟨j, e⟩ | ⟨sz, k, j, e⟩
      · simp only [e, hf] at hx
        split at hx <;> cases hx
      · simp only [e, hf] at hx
        split at hx <;> cases hx
  case indexAddr t y i =>
    have hx : indexAddrS P fr t (rd env y) (rd env i) = some x := hx
    unfold indexAddrS at hx
    cases hf : fr[b]? with
    | some lb => exact lt_of_get hf
    | none =>
      simp only [(rdB_ix h).2 b hb, hf] at hx
      repeat' (split at hx)
      all_goals first | (cases hx; done) | contradiction
  case binOp b' xt x y yt => rw [(rdB_bin h).1] at hb; cases hb
  case call c => rw [(rdB_call h).1] at hb; cases hb
  all_goals first
    | (have h : some [] = some rl := h; cases h; cases hb; done)
    | (have h : none = some rl := h; cases h)
theorem rdB_env {op : Op} {e e' : Env} (h : ∀ y ∈ op.operands, evE e y = evE e' y) : rdB e op = rdB e' op := by
  cases op
  case load t y => unfold rdB; simp only [rd, h y (by simp [Op.operands])]
  case binOp b xt x y yt => unfold rdB; simp only [rd, h x (by simp [Op.operands])]
  case indexAddr t x i => unfold rdB; simp only [rd, h x (by simp [Op.operands])]
  case call c =>
    obtain ⟨callee, args, tys⟩ := c
    cases callee
    case value f =>
      have e1 : rd e f = rd e' f := congrArg un (h f (by simp [Op.operands, Call.operands]))
      have e2 : args.toList.map (rd e) = args.toList.map (rd e') := List.map_congr_left fun y hy => congrArg un (h y (by simp only [Op.operands, Call.operands]; simp; exact .inr (by simpa using hy)))
      unfold rdB
      simp only [e1, e2]
    all_goals rfl
  all_goals rfl
theorem wrB_env {op : Op} {e e' : Env} (h : ∀ y ∈ op.operands, evE e y = evE e' y) : wrB e op = wrB e' op := by
  cases op
  case store t a x => unfold wrB; simp only [rd, h a (by simp [Op.operands]), h x (by simp [Op.operands])]
  all_goals rfl
theorem wrB_same {g : Cfg} {C : CallF} {env : Env} {fr fr' : Fr} {op : Op} {x : SV} {ks wl : List Nat} (h : wrB env op = some wl) (hx : evT g C env fr op = some (x, fr', ks)) : ∀ b, b ∉ wl → b < fr.length → fr'[b]? = fr[b]? := by
  cases op
  case alloc T =>
    unfold evT evW at hx
    simp only [isW] at hx
    split at hx
    · cases hx
      intro b _ hb
      exact List.getElem?_append_left hb
    · cases hx
  case box T y =>
    unfold evT evW at hx
    simp only [isW] at hx
    split at hx
    · cases hx
      intro b _ hb
      exact List.getElem?_append_left hb
    · cases hx
  case store t a y =>
    unfold evT evW storeE at hx
    simp only [isW] at hx
    unfold wrB at h
    intro b hb hlt
    split at hx
    · cases hx
    · split at hx
      · cases hx
      · cases ha : rd env a with
        | lp i j =>
          simp only [ha] at h hx
          cases h
          split at hx
          · split at hx
            · cases hx
              exact List.getElem?_set_ne (by intro e; exact hb (by simp [e]))
            · cases hx
          · cases hx
        | le i sz k j =>
          simp only [ha] at h hx
          split at h
          · rename_i hall
            cases h
            split at hx
            · split at hx
              · cases hx
              · split at hx
                · cases hx
                · split at hx
                  · cases hx
                  · split at hx
                    · cases hx
                    · split at hx
                      · cases hx
                      · cases hx
                        rw [rchs_trees hall]
                        exact List.getElem?_set_ne (by intro e; exact hb (by simp [e]))
            · cases hx
          · cases h
        | _ => simp only [ha] at h; cases h
  all_goals (unfold wrB at h; cases h)
theorem stab_spec {ops : Array Oper} {op : Op} {j m : Nat} (h : stabB ops op j m = true) {t : Nat} (ht : .tmp t ∈ op.operands) : ∀ (q : Nat) (oq : Oper), j ≤ q → q < m → ops[q]? = some oq → oq.dst ≠ some t := by
  intro q oq hj hm hq hd
  have h1 := List.all_eq_true.1 h q (List.mem_range.2 hm)
  have e1 : Nat.blt q j = false := by rw [← Bool.not_eq_true, Nat.blt_eq]; omega
  rw [e1, hq] at h1
  simp only [hd, Bool.false_or, Bool.not_eq_true'] at h1
  have : t ∈ tmpsOp op := by
    unfold tmpsOp
    rw [List.mem_filterMap]
    exact ⟨.tmp t, Array.mem_toList_iff.2 ht, rfl⟩
  exact absurd this (hasN_not.1 h1)
theorem disB_spec {w r : Option (List Nat)} (h : disB w r = true) : ∃ wl rl, w = some wl ∧ r = some rl ∧ ∀ b ∈ rl, b ∉ wl := by
  unfold disB at h
  split at h
  · rename_i wl rl
    refine ⟨wl, rl, rfl, rfl, fun b hb hw => ?_⟩
    have := List.all_eq_true.1 h b hw
    rw [Bool.not_eq_true'] at this
    exact hasN_not.1 this hb
  · cases h
section
variable {g : Cfg} {γ : Glob} {κ : Ctx} {C : CallF} {ops : Array Oper} {effs : List Nat} {n : Nat} {E : Nat → Env} {F : Nat → Fr}
abbrev StepsF (g : Cfg) (C : CallF) (ops : Array Oper) (effs : List Nat) (E : Nat → Env) (F : Nat → Fr) : Prop := ∀ (i : Nat) (o : Oper), ops[i]? = some o → StepF g C effs ops i o (E i) (F i) (E (i + 1)) (F (i + 1))
theorem EF_mono (hE : StepsF g C ops effs E F) (t j : Nat) : ∀ i, j ≤ i → i ≤ ops.size → (∀ (k : Nat) (o : Oper), j ≤ k → k < i → ops[k]? = some o → o.dst ≠ some t) → E i t = E j t
  | 0, h, _, _ => by obtain rfl : j = 0 := by omega
                     rfl
  | i + 1, h, hi, hk => by
    rcases Nat.lt_or_ge i j with h1 | h1
    · obtain rfl : j = i + 1 := by omega
      rfl
    · have ho := Array.getElem?_eq_getElem (xs := ops) (i := i) (by omega)
      have hd := hk i _ h1 (by omega) ho
      have e : E (i + 1) t = E i t := by
        have := (hE i _ ho).2
        split at this
        · obtain ⟨x, _, h2⟩ := this; rw [h2, updO_off hd]
        · rcases this with ⟨_, x, _, h2⟩ | ⟨_, _, h2⟩
          · rw [h2, updO_off hd]
          · rw [h2, updO_off hd]
      rw [e]
      exact EF_mono hE t j i h1 (by omega) fun k o hjk hki => hk k o hjk (by omega)
theorem FF_one (hE : StepsF g C ops effs E F) {i : Nat} (hi : i < ops.size) (hn : i ∉ effs) : F (i + 1) = F i := by
  have := (hE i _ (Array.getElem?_eq_getElem hi)).2
  have hD : ∀ {op x}, step g C (some effs) i (E i) (F i) op = some (x, F (i + 1), []) → F (i + 1) = F i := fun {op x} h => by
    unfold step at h
    simp only [hasN_not.2 hn] at h
    exact (evD_same h).1
  split at this
  · obtain ⟨x, h2, _⟩ := this; exact hD h2
  · rcases this with ⟨_, x, h2, _⟩ | ⟨_, h2, _⟩
    · exact hD h2
    · exact h2
theorem FF_const (hE : StepsF g C ops effs E F) (j : Nat) : ∀ i, j ≤ i → i ≤ ops.size → (∀ m, j ≤ m → m < i → m ∉ effs) → F i = F j
  | 0, h, _, _ => by obtain rfl : j = 0 := by omega
                     rfl
  | i + 1, h, hi, hm => by
    rcases Nat.lt_or_ge i j with h1 | h1
    · obtain rfl : j = i + 1 := by omega
      rfl
    · rw [FF_one hE (by omega) (hm i h1 (by omega))]
      exact FF_const hE j i h1 (by omega) fun m h2 h3 => hm m h2 (by omega)
theorem F_agree (hE : StepsF g C ops effs E F) (s b : Nat) (hb : b < (F s).length) : ∀ e, s ≤ e → e ≤ ops.size → (∀ (m : Nat) (om : Oper), s ≤ m → m < e → m ∈ effs → ops[m]? = some om → ∃ wl, wrB (E m) om.op = some wl ∧ b ∉ wl) → (F e)[b]? = (F s)[b]?
  | 0, h, _, _ => by obtain rfl : s = 0 := by omega
                     rfl
  | e + 1, h, he, hw => by
    rcases Nat.lt_or_ge e s with h1 | h1
    · obtain rfl : s = e + 1 := by omega
      rfl
    · have ih := F_agree hE s b hb e h1 (by omega) fun m om h2 h3 => hw m om h2 (by omega)
      rw [← ih]
      by_cases hm : e ∈ effs
      · have ho := Array.getElem?_eq_getElem (xs := ops) (i := e) (by omega)
        obtain ⟨wl, hwl, hnb⟩ := hw e _ h1 (by omega) hm ho
        have hlt : b < (F e).length := by
          obtain ⟨lb, hlb⟩ := get_of_lt hb
          rw [hlb] at ih
          exact lt_of_get ih
        have hT : ∀ {x}, step g C (some effs) e (E e) (F e) (ops[e]'(by omega)).op = some (x, F (e + 1), []) → (F (e + 1))[b]? = (F e)[b]? := fun {x} h => by
          unfold step at h
          have hh : hasN effs e = true := by
            rw [← Bool.not_eq_false]
            exact fun hf => hasN_not.1 hf hm
          simp only [hh] at h
          exact wrB_same hwl h b hnb hlt
        have := (hE e _ ho).2
        split at this
        · obtain ⟨x, h2, _⟩ := this; exact hT h2
        · rcases this with ⟨_, x, h2, _⟩ | ⟨_, h2, _⟩
          · exact hT h2
          · rw [h2]
      · rw [FF_one hE (by omega) hm]
theorem evE_stab (hE : StepsF g C ops effs E F) {op : Op} {j m : Nat} (hjm : j ≤ m) (hm : m ≤ ops.size) (h : stabB ops op j m = true) : ∀ y ∈ op.operands, evE (E m) y = evE (E j) y := by
  intro y hy
  cases y with
  | tmp t => exact EF_mono hE t j m hjm hm fun k o hk hkm hko => stab_spec h hy k o hk hkm hko
  | _ => rfl
/-- What holds between two operations: the effects below p have come up, those from p on have not. -/
structure MidF (γ : Glob) (κ : Ctx) (ops : Array Oper) (effs : List Nat) (n : Nat) (E : Nat → Env) (F : Nat → Fr) (p : Nat) (L : Ls) (listed : Array Bool) (a : Act) (w : World) : Prop where
  hd : Marks κ w a.defers
  hn : a.tmps.size = n
  hs : listed.size = ops.size
  hp : p ≤ ops.size
  low : ∀ e ∈ effs, e < p → listed.getD e true = true
  high : ∀ e ∈ effs, p ≤ e → e < ops.size → listed.getD e true = false
  core : Core γ κ (F p) L w
  done : ∀ (k : Nat) (o : Oper) (t : Nat), ops[k]? = some o → o.dst = some t → listed.getD k true = true → SR (MA κ.M (F p) L) L w (E (k + 1) t) (a.tmps.getD t undef)
  rest : ∀ (t : Nat), (∀ (k : Nat) (o : Oper), ops[k]? = some o → o.dst = some t → listed.getD k true = false) → SR (MA κ.M (F p) L) L w (E 0 t) (a.tmps.getD t undef)
  clos : ∀ (k : Nat) (o : Oper), ops[k]? = some o → listed.getD k true = true → ∀ e ∈ o.after, Region.binds .any e = true → listed.getD e.on false = true
variable {p : Nat} {L : Ls} {listed : Array Bool} {a : Act} {w : World}
theorem MidF.start (hd : Marks κ w a.defers) (hn : a.tmps.size = n) (hC : Core γ κ (F 0) L w) (hV : ∀ t, SR (MA κ.M (F 0) L) L w (E 0 t) (a.tmps.getD t undef)) : MidF γ κ ops effs n E F 0 L (Array.replicate ops.size false) a w where
  hd := hd
  hn := hn
  hs := by simp
  hp := Nat.zero_le _
  low := fun e _ h => by omega
  high := fun e _ _ he => by rw [Array.getD_eq_getD_getElem?, Array.getElem?_replicate, if_pos he]; rfl
  core := hC
  done := fun k o t ho _ hl => by
    have hk := (Array.getElem?_eq_some_iff.1 ho).1
    rw [Array.getD_eq_getD_getElem?, Array.getElem?_replicate, if_pos hk] at hl
    cases hl
  rest := fun t _ => hV t
  clos := fun k o ho hl => by
    have hk := (Array.getElem?_eq_some_iff.1 ho).1
    rw [Array.getD_eq_getD_getElem?, Array.getElem?_replicate, if_pos hk] at hl
    cases hl
theorem MidF.anc (h : MidF γ κ ops effs n E F p L listed a w) {i k : Nat} (ha : Anc ops i k) : (∀ (o : Oper), ops[i]? = some o → ∀ e ∈ o.after, Region.binds .any e = true → listed.getD e.on false = true) → listed.getD k true = true := by
  induction ha with
  | one i o e ho he hb => intro hi; exact getD_false (hi o ho e he hb)
  | more i k o e ho he hb ha ih =>
    intro hi
    have h1 := getD_false (hi o ho e he hb)
    exact ih fun o' ho' => h.clos e.on o' ho' h1
theorem MidF.slot (hok : DrawOkF ops effs) (hE : StepsF g C ops effs E F) (h : MidF γ κ ops effs n E F p L listed a w) {i t : Nat} (hi : i ≤ ops.size)
    (h1 : ∀ (k : Nat) (ok : Oper), ops[k]? = some ok → ok.dst = some t → listed.getD k true = true → k < i) (h2 : ∀ (k : Nat) (ok : Oper), ops[k]? = some ok → ok.dst = some t → listed.getD k true = false → i ≤ k) : SR (MA κ.M (F p) L) L w (E i t) (a.tmps.getD t undef) := by
  by_cases hex : ∃ (k : Nat) (ok : Oper), ops[k]? = some ok ∧ ok.dst = some t ∧ listed.getD k true = true
  · obtain ⟨k, ok, hk, hd, hl⟩ := hex
    have hki := h1 k ok hk hd hl
    rw [EF_mono hE t (k + 1) i (by omega) hi fun m om hm1 hm2 hm3 => hok.dst m om k ok t hm3 hk (by omega) hd]
    exact h.done k ok t hk hd hl
  · have hno : ∀ (k : Nat) (o : Oper), ops[k]? = some o → o.dst = some t → listed.getD k true = false := fun k o hk hd => by
      rw [← Bool.not_eq_true]; exact fun hl => hex ⟨k, o, hk, hd, hl⟩
    rw [EF_mono hE t 0 i (Nat.zero_le _) hi fun k o _ hki hk hd => by have := h2 k o hk hd (hno k o hk hd); omega]
    exact h.rest t hno
theorem all_listedB (hok : DrawB ops) {listed : Array Bool} (hs : listed.size = ops.size) (hr : Region.ready .any ops listed = []) : ∀ k, k < ops.size → listed.getD k true = true := by
  intro k
  induction k using Nat.strongRecOn with
  | _ k ih =>
    intro hk
    rw [← Bool.not_eq_false]
    intro hl
    have hm : k ∈ Region.ready .any ops listed := mem_ready.2 ⟨hl, ops[k], Array.getElem?_eq_getElem hk, fun e he hb => by
      have hlt := hok.back k _ (Array.getElem?_eq_getElem hk) e he hb
      exact getD_true (by rw [hs]; omega) (ih e.on hlt (by omega))⟩
    rw [hr] at hm
    cases hm
theorem rdB_in {fr : Fr} {env : Env} {op : Op} {rl : List Nat} (hC : Core γ κ fr L w) (h : rdB env op = some rl) (hop : ∀ y ∈ op.operands, SR (MA κ.M fr L) L w (evE env y) (a.eval y)) : ∀ b ∈ rl, b < fr.length := by
  have key : ∀ y ∈ op.operands, ∀ b, (∃ j, rd env y = .lp b j) ∨ (∃ sz k j, rd env y = .le b sz k j) ∨ rd env y = .ls b → b < fr.length := fun y hy b hb => by
    have h1 := rd_ok (hop y hy)
    rcases hb with ⟨j, hb⟩ | ⟨sz, k, j, hb⟩ | hb
    · rw [hb] at h1
      obtain ⟨g, h2, _⟩ := inv_lp h1
      exact hC.lim _ _ h2
    · rw [hb] at h1
      obtain ⟨_, _, _, h2, _⟩ := inv_le h1
      exact hC.lim _ _ h2
    · rw [hb] at h1
      obtain ⟨h2, _⟩ := inv_ls h1
      exact hC.lim _ _ h2
  intro b hb
  cases op
  case load t y =>
    refine key y (by simp [Op.operands]) b ?_
    rcases rdB_load0 h b hb with ⟨j, e⟩ | ⟨sz, k, j, e⟩
    · exact .inl ⟨j, e⟩
    · exact .inr (.inl ⟨sz, k, j, e⟩)
  case indexAddr t x i => exact key x (by simp [Op.operands]) b (.inr (.inr ((rdB_ix h).2 b hb)))
  case binOp b' xt x y yt => rw [(rdB_bin h).1] at hb; cases hb
  case call c => rw [(rdB_call h).1] at hb; cases hb
  all_goals first
    | (have h : some [] = some rl := h; cases h; cases hb; done)
    | (have h : none = some rl := h; cases h)
theorem wpAny_midF {rd : Option Nat} {dn : Nat} (hS : CallSnd g.P γ C) (hok : DrawOkF ops effs) (hdst : dstOk n ops.toList = true) (hE : StepsF g C ops effs E F) {Q : Exit → Act → World → Prop}
    (hK : ∀ L a w, Marks κ w a.defers → a.tmps.size = n → Core γ κ (F ops.size) L w → (∀ t, SR (MA κ.M (F ops.size) L) L w (E ops.size t) (a.tmps.getD t undef)) → Q .normal a w) :
    ∀ (fuel : Nat) (p : Nat) (L : Ls) (listed : Array Bool) (a : Act) (w : World), un' listed ops.size ≤ fuel → MidF γ κ ops effs n E F p L listed a w → wpAnyIn (Fw rd) dn g.P .any ops Q fuel listed a w := by
  have hdst' : ∀ (i : Nat) (o : Oper), ops[i]? = some o → ∀ d, o.dst = some d → d < n := fun i o ho d hd => dst_lt hdst (Array.mem_toList_iff.2 (Array.mem_of_getElem? ho)) hd
  have fin : ∀ (p : Nat) (L : Ls) (listed : Array Bool) (a : Act) (w : World), (∀ k, k < ops.size → listed.getD k true = true) → MidF γ κ ops effs n E F p L listed a w → Q .normal a w := fun p L listed a w hall h => by
    have hm : ∀ m, p ≤ m → m < ops.size → m ∉ effs := fun m h1 h2 h3 => by
      have := h.high m h3 h1 h2
      rw [hall m h2] at this; cases this
    have hF := FF_const hE p ops.size h.hp (Nat.le_refl _) hm
    refine hK L a w h.hd h.hn (by rw [hF]; exact h.core) fun t => ?_
    rw [hF]
    exact h.slot hok hE (Nat.le_refl _) (fun k ok hk _ _ => (Array.getElem?_eq_some_iff.1 hk).1) (fun k ok hk _ hl => by
      have := hall k (Array.getElem?_eq_some_iff.1 hk).1
      rw [hl] at this; cases this)
  intro fuel
  induction fuel with
  | zero =>
    intro p L listed a w hu h
    have hall := un_zero (listed := listed) ops.size (by omega)
    refine ⟨?_, fin p L listed a w hall h⟩
    cases hr : Region.ready .any ops listed with
    | nil => rfl
    | cons i l =>
      have hm : i ∈ Region.ready .any ops listed := by rw [hr]; simp
      obtain ⟨hl, o, ho, _⟩ := mem_ready.1 hm
      have := hall i (Array.getElem?_eq_some_iff.1 ho).1
      rw [hl] at this; cases this
  | succ fuel ih =>
    intro p L listed a w hu h
    refine ⟨fun hr => fin p L listed a w (all_listedB hok.toDrawB h.hs hr) h, fun i hi => ?_⟩
    obtain ⟨hl, o, ho, hedge⟩ := mem_ready.1 hi
    have hisz := (Array.getElem?_eq_some_iff.1 ho).1
    have hst := hE i o ho
    have hu' : un' (listed.setIfInBounds i true) ops.size ≤ fuel := by
      have := un_set hl ops.size
      rw [if_pos hisz] at this
      omega
    have hready : ∀ k, Anc ops i k → listed.getD k true = true := fun k ha => h.anc ha fun o' ho' => by rw [ho] at ho'; cases ho'; exact hedge
    have edge : ∀ k, hasEdge o k = true → listed.getD k true = true ∧ k < i := fun k hk => by
      obtain ⟨e, he, hb, rfl⟩ := hasEdge_iff hk
      exact ⟨getD_false (hedge e he hb), hok.back i o ho e he hb⟩
    have hslot : ∀ t, (.tmp t ∈ o.op.operands ∨ ∃ j oj, ops[j]? = some oj ∧ oj.dst = some t ∧ hasEdge o j = true) → SR (MA κ.M (F p) L) L w (E i t) (a.tmps.getD t undef) := fun t ht => by
      refine h.slot hok hE (by omega) (fun k ok hk hd hlk => ?_) (fun k ok hk hd hlk => ?_)
      · have hki : k ≠ i := fun e => by subst e; rw [hl] at hlk; cases hlk
        rcases ht with hy | ⟨j, oj, hoj, hdj, hej⟩
        · rcases hok.use i o k ok t ho hk hki hd hy with h1 | h1
          · exact (edge k h1).2
          · obtain ⟨e, he, hb, rfl⟩ := hasEdge_iff h1
            have := getD_false (h.clos k ok hk hlk e he hb)
            rw [hl] at this; cases this
        · by_cases hkj : k = j
          · subst hkj; exact (edge k hej).2
          · exact absurd hdj (hok.dst j oj k ok t hoj hk hkj hd)
      · rcases Nat.lt_or_ge k i with hlt | hge
        · rcases ht with hy | ⟨j, oj, hoj, hdj, hej⟩
          · rcases hok.use i o k ok t ho hk (by omega) hd hy with h1 | h1
            · have := (edge k h1).1
              rw [hlk] at this; cases this
            · obtain ⟨e, he, hb, rfl⟩ := hasEdge_iff h1
              have := hok.back k ok hk e he hb
              omega
          · by_cases hkj : k = j
            · subst hkj; have := (edge k hej).1; rw [hlk] at this; cases this
            · exact absurd hdj (hok.dst j oj k ok t hoj hk hkj hd)
        · exact hge
    have hop : ∀ y ∈ o.op.operands, SR (MA κ.M (F p) L) L w (evE (E i) y) (a.eval y) := fun y hy => by
      cases y with
      | const v => exact cv_ok v
      | global g => exact .dead _
      | func f => exact .t _ _ (.fn _ [] #[] #[] rfl (fun j x u hx _ => by simp at hx))
      | tmp t => exact hslot t (.inl hy)
    -- an effect comes up where its turn is
    have heff : i ∈ effs → F i = F p := fun hie => by
      have hpi : p ≤ i := by
        rcases Nat.lt_or_ge i p with h1 | h1
        · have := h.low i hie h1; rw [hl] at this; cases this
        · exact h1
      refine FF_const hE p i hpi (by omega) fun m h1 h2 h3 => ?_
      have := hready m (hok.eff i hie m h3 hisz h2)
      rw [h.high m h3 h1 (by omega)] at this; cases this
    -- what an operation that is no effect gives, it gives here too
    have htrans : ∀ {x}, step g C (some effs) i (E i) (F i) o.op = some (x, F (i + 1), []) → step g C (some effs) i (E i) (F p) o.op = some (x, (if i ∈ effs then F (i + 1) else F p), []) := fun {x} hx => by
      by_cases hie : i ∈ effs
      · rw [if_pos hie, ← heff hie]; exact hx
      · rw [if_neg hie]
        have hx' := hx
        unfold step at hx ⊢
        simp only [hasN_not.2 hie] at hx ⊢
        have hfi := FF_one hE hisz hie
        rw [hfi] at hx
        -- the effects between
        have up : ∀ (m : Nat) (om : Oper), p ≤ m → m < i → m ∈ effs → ops[m]? = some om → ∃ wl rl, wrB (E m) om.op = some wl ∧ rdB (E i) o.op = some rl ∧ ∀ b ∈ rl, b ∉ wl := fun m om h1 h2 h3 hom => by
          have hb : ((Region.before ops).getD i 0).testBit m = false := by
            rw [← Bool.not_eq_true]
            intro hb
            have := hready m (before_anc hb)
            rw [h.high m h3 h1 (by omega)] at this; cases this
          have hf := List.all_eq_true.1 hst.1 m (List.mem_range.2 h2)
          unfold fltPair at hf
          have hm : hasN effs m = true := by rw [← Bool.not_eq_false]; exact fun hf => hasN_not.1 hf h3
          simp only [hom, ho, hm, hasN_not.2 hie, hb, Bool.false_or, Bool.and_eq_true] at hf
          obtain ⟨wl, rl, e1, e2, e3⟩ := disB_spec hf.2
          rw [wrB_env (evE_stab hE (by omega) (by omega) hf.1)] at e1
          exact ⟨wl, rl, e1, e2, e3⟩
        have dn : ∀ (m : Nat) (om : Oper), i < m → m < p → m ∈ effs → ops[m]? = some om → ∃ wl rl, wrB (E m) om.op = some wl ∧ rdB (E i) o.op = some rl ∧ ∀ b ∈ rl, b ∉ wl := fun m om h1 h2 h3 hom => by
          have hb : ((Region.before ops).getD m 0).testBit i = false := by
            rw [← Bool.not_eq_true]
            intro hb
            have := h.anc (before_anc hb) fun o' ho' => h.clos m o' ho' (h.low m h3 h2)
            rw [hl] at this; cases this
          have hf := List.all_eq_true.1 (hE m om hom).1 i (List.mem_range.2 h1)
          unfold fltPair at hf
          have hm : hasN effs m = true := by rw [← Bool.not_eq_false]; exact fun hf => hasN_not.1 hf h3
          simp only [hom, ho, hm, hasN_not.2 hie, hb, Bool.false_or, Bool.and_eq_true] at hf
          obtain ⟨wl, rl, e1, e2, e3⟩ := disB_spec hf.2
          have hmsz := (Array.getElem?_eq_some_iff.1 hom).1
          rw [rdB_env (evE_stab hE (by omega) (by omega) hf.1)] at e2
          exact ⟨wl, rl, e1, e2, e3⟩
        by_cases hex : ∃ m, m ∈ effs ∧ ((p ≤ m ∧ m < i) ∨ (i < m ∧ m < p))
        · obtain ⟨m, hme, hmm⟩ := hex
          have hmsz : m < ops.size := by have := h.hp; omega
          obtain ⟨_, rl, _, hrl, _⟩ : ∃ wl rl, wrB (E m) (ops[m]).op = some wl ∧ rdB (E i) o.op = some rl ∧ ∀ b ∈ rl, b ∉ wl := by
            rcases hmm with hmm | hmm
            · exact up m _ hmm.1 hmm.2 hme (Array.getElem?_eq_getElem hmsz)
            · exact dn m _ hmm.1 hmm.2 hme (Array.getElem?_eq_getElem hmsz)
          cases hnc : isCall o.op with
          | true =>
            cases hop2 : o.op with
            | call c =>
              rw [hop2] at hrl hx
              obtain ⟨_, cf, args, tys, fn, pa, qa, rfl, hcal, hall⟩ := rdB_call hrl
              unfold evD at hx ⊢
              simp only [isCall] at hx ⊢
              unfold evW callE at hx ⊢
              simp only [hcal] at hx ⊢
              exact callS_trees hall hx
            | _ => rw [hop2] at hnc; cases hnc
          | false =>
          unfold evD at hx ⊢
          simp only [hnc] at hx ⊢
          obtain ⟨hxe, _, _⟩ := withFr_ok hx
          have hlt := rdB_lt hrl hxe
          have hag : ∀ b ∈ rl, (F i)[b]? = (F p)[b]? := fun b hb => by
            rcases Nat.lt_or_ge i p with h1 | h1
            · refine (F_agree hE i b (hlt b hb) p (by omega) h.hp fun m om h2 h3 h4 h5 => ?_).symm
              have hne : m ≠ i := fun e => hie (by rw [← e]; exact h4)
              obtain ⟨wl, rl', e1, e2, e3⟩ := dn m om (by omega) h3 h4 h5
              rw [hrl] at e2
              cases e2
              exact ⟨wl, e1, e3 b hb⟩
            · have hbp : b < (F p).length := rdB_in h.core hrl hop b hb
              refine F_agree hE p b hbp i h1 (by omega) fun m om h2 h3 h4 h5 => ?_
              obtain ⟨wl, rl', e1, e2, e3⟩ := up m om h2 h3 h4 h5
              rw [hrl] at e2
              cases e2
              exact ⟨wl, e1, e3 b hb⟩
          rw [← rdB_same hrl hag, hxe]
          rfl
        · have hFe : F i = F p := by
            rcases Nat.lt_or_ge i p with h1 | h1
            · refine (FF_const hE i p (by omega) h.hp fun m h2 h3 h4 => ?_).symm
              have hne : m ≠ i := fun e => hie (by rw [← e]; exact h4)
              exact hex ⟨m, h4, .inr ⟨by omega, h3⟩⟩
            · exact FF_const hE p i h1 (by omega) fun m h2 h3 h4 => hex ⟨m, h4, .inl ⟨h2, h3⟩⟩
          rw [← hFe]
          exact hx
    -- what comes behind this operation, once it is carried out
    have next : ∀ (v : Value) (w' : World) (L' : Ls) (x : SV) (f1 : Fr), f1 = (if i ∈ effs then F (i + 1) else F p) → Tr κ.M (F p) L w f1 L' w' [] → Core γ κ f1 L' w' → SR (MA κ.M f1 L') L' w' x v → E (i + 1) = updO (E i) o.dst x → wpAnyIn (Fw rd) dn g.P .any ops Q fuel (listed.setIfInBounds i true) (a.put o.dst v) w' := fun v w' L' x f1 hf1 hT hC' hv hEi => by
      obtain ⟨q, hq, hqs, hlow, hhigh⟩ : ∃ q, f1 = F q ∧ q ≤ ops.size ∧ (∀ e ∈ effs, e < q → (listed.setIfInBounds i true).getD e true = true) ∧ (∀ e ∈ effs, q ≤ e → e < ops.size → (listed.setIfInBounds i true).getD e true = false) := by
        by_cases hie : i ∈ effs
        · refine ⟨i + 1, by rw [hf1, if_pos hie], hisz, fun e he hlt => ?_, fun e he hge hes => ?_⟩
          · by_cases hei : e = i
            · subst hei
              rw [Array.getD_eq_getD_getElem?, Array.getElem?_setIfInBounds_self_of_lt (by rw [h.hs]; exact hisz)]; rfl
            · rw [getD_set_ne true (Ne.symm hei)]
              exact hready e (hok.eff i hie e he hisz (by omega))
          · rw [getD_set_ne true (by omega), ← Bool.not_eq_true]
            intro hle
            have := h.anc (hok.eff e he i hie hes (by omega)) fun o' ho' => h.clos e o' ho' hle
            rw [hl] at this; cases this
        · refine ⟨p, by rw [hf1, if_neg hie], h.hp, fun e he hlt => ?_, fun e he hge hes => ?_⟩
          · have hei : e ≠ i := fun e' => hie (by rw [← e']; exact he)
            rw [getD_set_ne true (Ne.symm hei)]
            exact h.low e he hlt
          · have hei : e ≠ i := fun e' => hie (by rw [← e']; exact he)
            rw [getD_set_ne true (Ne.symm hei)]
            exact h.high e he hge hes
      subst hq
      refine ih q L' _ _ _ hu' ⟨?_, ?_, ?_, hqs, hlow, hhigh, hC', fun k ok t hk hd hlk => ?_, fun t ht => ?_, fun k ok hk hlk e he hb' => ?_⟩
      · rw [put_defers]; exact h.hd.tr h.core hT
      · rw [put_size, h.hn]
      · rw [Array.size_setIfInBounds]; exact h.hs
      · by_cases hki : k = i
        · subst hki
          rw [ho] at hk; cases hk
          rw [hEi, hd, put_at (by rw [h.hn]; exact hdst' k o ho t hd)]
          show SR _ _ _ (upd _ t x t) v
          rw [upd_same]
          exact hv
        · rw [put_off (hok.dst i o k ok t ho hk hki hd)]
          rw [getD_set_ne true (Ne.symm hki)] at hlk
          exact hT.sr (h.done k ok t hk hd hlk)
      · have hi' : o.dst ≠ some t := fun hd => by
          have hlt : i < listed.size := by rw [h.hs]; exact hisz
          have := ht i o ho hd
          rw [Array.getD_eq_getD_getElem?, Array.getElem?_setIfInBounds_self_of_lt hlt] at this
          cases this
        rw [put_off hi']
        refine hT.sr (h.rest t fun k ok hk hd => ?_)
        have hki : k ≠ i := fun e => by subst e; rw [ho] at hk; cases hk; exact hi' hd
        have := ht k ok hk hd
        rw [getD_set_ne true (Ne.symm hki)] at this
        exact this
      · by_cases hki : k = i
        · subst hki
          rw [ho] at hk; cases hk
          exact getD_set_true (hedge e he hb')
        · rw [getD_set_ne true (Ne.symm hki)] at hlk
          exact getD_set_true (h.clos k ok hk hlk e he hb')
    have h2 := hst.2
    unfold wpOpIn
    simp only [ho]
    cases hg : o.guard with
    | none =>
      rw [hg] at h2
      obtain ⟨x, hst', hEi⟩ := h2
      rw [if_pos (by simp [Region.wanted, hg])]
      exact (step_ok hS (htrans hst') κ L a w h.core hop).wpIn fun v w' ⟨L', hT, hC', hv⟩ => next v w' L' x _ rfl hT hC' hv hEi
    | some gj =>
      obtain ⟨j, want⟩ := gj
      rw [hg] at h2
      have hej := hok.guard i o j want ho hg
      have hwt : ∀ W, gOf ops (E i) j want = some W → Region.wanted o (yielded ops a.tmps) = W := fun W hW => wanted_of (A := MA κ.M (F p) L) (L := L) (w := w) hg hW fun d hdd => by
        cases hoj : ops[j]? with
        | none => rw [hoj] at hdd; cases hdd
        | some oj =>
          rw [hoj] at hdd
          have hdj : oj.dst = some d := hdd
          exact ⟨hslot d (.inr ⟨j, oj, hoj, hdj, hej⟩), by rw [h.hn]; exact hdst' j oj hoj d hdj⟩
      rcases h2 with ⟨hW, x, hst', hEi⟩ | ⟨hW, hFi, hEi⟩
      · rw [hwt _ hW, if_pos rfl]
        exact (step_ok hS (htrans hst') κ L a w h.core hop).wpIn fun v w' ⟨L', hT, hC', hv⟩ => next v w' L' (.yes x) _ rfl hT hC' (.yes _ _ hv) hEi
      · rw [hwt _ hW, if_neg (by simp)]
        refine ⟨fun _ _ => trivial, next undef w L .no (F p) ?_ Tr.refl h.core .no hEi⟩
        by_cases hie : i ∈ effs
        · rw [if_pos hie, hFi, heff hie]
        · rw [if_neg hie]
end
end Go.Proofs.YtgbfedgghjcdcaaGreatDoor

/- The tree evaluator, 19: a function's end. No condition. -/
namespace Go.Proofs.YtgbfedgghjcdcaaGreatDoor
set_option linter.unusedSimpArgs false
set_option linter.unusedVariables false
set_option linter.unusedSectionVars false
open Go.RowKit

section
variable {γ : Glob} {κ : Ctx} {fr : Fr} {L : Ls} {w : World}
theorem ro_free (hC : Core γ κ fr L w) {i : Nat} {v : Value} {lb : Lb} (hL : L i = some v) (hb : fr[i]? = some lb) (hro : lb.ro = true) : ∀ b, blkOf v = some b → MA κ.M fr L b := fun b hvb =>
  ⟨(hC.new i v b lb hL hvb hb).2.1, fun ⟨j, u, lb', h1, h2, h3, h4⟩ => by
    have := hC.dis j i u v b h1 hL h2 hvb
    subst this
    rw [hb] at h3
    cases h3
    rw [hro] at h4
    cases h4⟩
mutual
theorem thaw_ok (hC : Core γ κ fr L w) : ∀ (s : SV) (v : Value), SR (MA κ.M fr L) L w s v → SR (MA κ.M fr L) L w (thaw fr s) v
  | .ls i, v, h => by
    rw [thaw]
    split
    · rename_i tch sz es hb
      obtain ⟨hL, _⟩ := inv_ls h
      exact .t _ _ (row_tree hC (fun _ h => h) hb hL (ro_free hC hL hb rfl))
    · exact h
  | .agg cs, v, h => by
    rw [thaw]
    cases h with
    | agg _ us hl hr =>
      obtain ⟨t1, t2⟩ := thawL_ok hC cs us hr
      split
      · rename_i xs hx
        obtain ⟨h1, h2⟩ := pursN_ok (A := MA κ.M fr L) (L := L) (w := w) hx
        refine .t _ _ (.agg _ us (by rw [hl, ← t1, h1]) fun j x u hxj hu => ?_)
        obtain ⟨s, hs⟩ := get_of_lt (xs := thawL fr cs) (k := j) (by rw [h1]; exact lt_of_get hxj)
        exact h2 j s x u hs hxj (t2 j s u hs hu)
      · exact .agg _ us (by rw [hl, t1]) t2
  | .tup cs, v, h => by
    rw [thaw]
    cases h with
    | tup _ us hl hr =>
      obtain ⟨t1, t2⟩ := thawL_ok hC cs us hr
      exact .tup _ us (by rw [hl, t1]) t2
  | .fn f nf cs, v, h => by
    rw [thaw]
    cases h with
    | fn _ _ fs us hl hr =>
      obtain ⟨t1, t2⟩ := thawL_ok hC cs (fs ++ us) hr
      exact fnS_ok (.fn _ _ fs us (by rw [hl, t1]) t2)
  | .yes s, v, h => by
    rw [thaw]
    cases h with
    | yes _ _ h => exact thaw_ok hC s v h
  | .t x, v, h => by rw [thaw] <;> first | exact h | (intros; contradiction)
  | .nil, v, h => by rw [thaw] <;> first | exact h | (intros; contradiction)
  | .tc es, v, h => by rw [thaw] <;> first | exact h | (intros; contradiction)
  | .nn es, v, h => by rw [thaw] <;> first | exact h | (intros; contradiction)
  | .lp i j, v, h => by rw [thaw] <;> first | exact h | (intros; contradiction)
  | .lv i sz a n, v, h => by rw [thaw] <;> first | exact h | (intros; contradiction)
  | .le i sz k j, v, h => by rw [thaw] <;> first | exact h | (intros; contradiction)
  | .lm i, v, h => by rw [thaw] <;> first | exact h | (intros; contradiction)
  | .no, v, h => by rw [thaw] <;> first | exact h | (intros; contradiction)
  | .dead, v, h => by rw [thaw] <;> first | exact h | (intros; contradiction)
theorem thawL_ok (hC : Core γ κ fr L w) : ∀ (cs : List SV) (us : Array Value), (∀ (j : Nat) (x : SV) (u : Value), cs[j]? = some x → us[j]? = some u → SR (MA κ.M fr L) L w x u) → (thawL fr cs).length = cs.length ∧ ∀ (j : Nat) (x : SV) (u : Value), (thawL fr cs)[j]? = some x → us[j]? = some u → SR (MA κ.M fr L) L w x u
  | [], us, _ => ⟨by rw [thawL], fun j x u hx _ => by rw [thawL] at hx; simp at hx⟩
  | c :: cs, us, hr => by
    obtain ⟨t1, t2⟩ := thawL_ok hC cs (us.extract 1 us.size) fun j x u hx hu => by
      rw [Array.getElem?_extract] at hu
      split at hu
      · rw [Nat.add_comm] at hu; exact hr (j + 1) x u (by simpa using hx) hu
      · cases hu
    rw [thawL]
    refine ⟨by simp [t1], fun j x u hx hu => ?_⟩
    cases j with
    | zero => cases hx; exact thaw_ok hC c u (hr 0 c u rfl hu)
    | succ j =>
      refine t2 j x u (by simpa using hx) ?_
      have hj := (Array.getElem?_eq_some_iff.1 hu).1
      rw [Array.getElem?_extract, if_pos (by omega), Nat.add_comm]
      exact hu
end
theorem roAll_spec : ∀ {l : List Nat}, roAll fr l = true → ∀ i ∈ l, ∃ b, fr[i]? = some b ∧ b.ro = true
  | [], _, i, hi => by cases hi
  | k :: r, h, i, hi => by
    unfold roAll at h
    split at h
    · rename_i b hb
      rw [Bool.and_eq_true] at h
      rcases List.mem_cons.1 hi with rfl | hi
      · exact ⟨b, hb, h.1⟩
      · exact roAll_spec h.2 i hi
    · cases h
theorem recell_ok (hC : Core γ κ fr L w) (m : Nat) {c : SV} {v : Value} (h : SR (MA κ.M fr L) L w c v) : SR (MA κ.M fr L) L w (recell m fr c) v := by
  unfold recell
  split
  · exact h
  · split
    · rename_i x hx hro
      refine .t _ _ ((toAV_ok hC (A := MA κ.M fr L) (fun _ h => h) deep).1 c x v hx (fun i hi u b hu hb => ?_) h)
      obtain ⟨lb, h1, h2⟩ := roAll_spec hro i hi
      exact ro_free hC hu h1 h2 b hb
    · exact h
theorem recellB_ro (m : Nat) (b : Lb) : (recellB m fr b).ro = b.ro := by cases b <;> rfl
theorem recellB_tch (m : Nat) (b : Lb) : (recellB m fr b).tch = b.tch := by cases b <;> rfl
/-- Parts of variables taken as trees. -/
theorem Core.recells (hC : Core γ κ fr L w) (m : Nat) : Core γ κ (fr.map (recellB m fr)) L w ∧ ∀ b, MA κ.M fr L b ↔ MA κ.M (fr.map (recellB m fr)) L b := by
  have hget : ∀ (i : Nat) (lb' : Lb), (fr.map (recellB m fr))[i]? = some lb' → ∃ lb, fr[i]? = some lb ∧ lb' = recellB m fr lb := fun i lb' h => by
    rw [List.getElem?_map] at h
    cases hf : fr[i]? with
    | none => rw [hf] at h; cases h
    | some lb => rw [hf] at h; cases h; exact ⟨lb, rfl, rfl⟩
  have hOwn : ∀ b, Own fr L b ↔ Own (fr.map (recellB m fr)) L b := fun b => by
    constructor
    · rintro ⟨i, v, lb, h1, h2, h3, h4⟩
      exact ⟨i, v, recellB m fr lb, h1, h2, by rw [List.getElem?_map, h3]; rfl, by rw [recellB_ro]; exact h4⟩
    · rintro ⟨i, v, lb', h1, h2, h3, h4⟩
      obtain ⟨lb, h5, rfl⟩ := hget i lb' h3
      rw [recellB_ro] at h4
      exact ⟨i, v, lb, h1, h2, h5, h4⟩
  have hMA : ∀ b, MA κ.M fr L b ↔ MA κ.M (fr.map (recellB m fr)) L b := fun b => by unfold MA; rw [hOwn b]
  have hSR : ∀ {x : SV} {v : Value}, SR (MA κ.M fr L) L w x v → SR (MA κ.M (fr.map (recellB m fr)) L) L w x v := fun h => SR.on (Nat.le_refl _) (fun b _ hb => ⟨(hMA b).1 hb, rfl⟩) (fun _ _ h => h) h
  have hVR : ∀ {x : AV} {v : Value}, VR (MA κ.M fr L) w x v → VR (MA κ.M (fr.map (recellB m fr)) L) w x v := fun h => VR.on (Nat.le_refl _) (fun b _ hb => ⟨(hMA b).1 hb, rfl⟩) h
  refine ⟨⟨hC.glob, hC.gn, hC.gx, hC.fresh, hC.os, hC.tape, hC.output, hC.size, hC.kept, fun i v h => by rw [List.length_map]; exact hC.lim i v h, fun i v b lb' h1 h2 h3 => ?_, hC.dis, fun j v h => ?_, fun i lb' h => ?_⟩, hMA⟩
  · obtain ⟨lb, h5, rfl⟩ := hget i lb' h3
    rw [recellB_ro]
    exact hC.new i v b lb h1 h2 h5
  · obtain ⟨lb, h1, h2⟩ := hC.hand j v h
    exact ⟨recellB m fr lb, by rw [List.getElem?_map, h1]; rfl, fun ht => h2 (by rw [recellB_tch] at ht; exact ht)⟩
  · obtain ⟨lb, h5, rfl⟩ := hget i lb' h
    have hb := hC.blk i lb h5
    cases lb with
    | box ro T cs =>
      obtain ⟨g, us, h1, h2, h3, h4⟩ := hb
      refine ⟨g, us, h1, h2, by rw [List.length_map]; exact h3, fun j x u hx hu => ?_⟩
      rw [List.getElem?_map] at hx
      cases hc : cs[j]? with
      | none => rw [hc] at hx; cases hx
      | some c => rw [hc] at hx; cases hx; exact hSR (recell_ok hC m (h4 j c u hc hu))
    | row ro tch sz es =>
      obtain ⟨T, v, us, h1, h2, h3, h4, h5⟩ := hb
      exact ⟨T, v, us, h1, h2, h3, h4, fun k j cs x hk hj => by
        obtain ⟨u, e1, e2⟩ := h5 k j cs x hk hj
        exact ⟨u, e1, hVR e2⟩⟩
    | map ro ks vs =>
      obtain ⟨r, ents, clock, h1, h2, h3, h4, h5, h6⟩ := hb
      exact ⟨r, ents, clock, h1, h2, h3, h4, fun j x u hx hu => hVR (h5 j x u hx hu), fun j x u hx hu => hSR (h6 j x u hx hu)⟩
theorem dedup_pre : ∀ (l acc : List Nat), ∃ r, dedup acc l = acc ++ r
  | [], acc => ⟨[], by unfold dedup; simp⟩
  | i :: l, acc => by
    unfold dedup
    split
    · exact dedup_pre l acc
    · obtain ⟨r, h⟩ := dedup_pre l (acc ++ [i])
      exact ⟨i :: r, by rw [h]; simp⟩
theorem dedup_mem : ∀ (l acc : List Nat) (i : Nat), i ∈ acc ∨ i ∈ l → i ∈ dedup acc l
  | [], acc, i, h => by unfold dedup; simpa using h
  | k :: l, acc, i, h => by
    unfold dedup
    split
    · rename_i hk
      refine dedup_mem l acc i ?_
      rcases h with h | h
      · exact .inl h
      · rcases List.mem_cons.1 h with rfl | h
        · exact .inl (hasN_iff.1 hk)
        · exact .inr h
    · refine dedup_mem l _ i ?_
      rcases h with h | h
      · exact .inl (by simp [h])
      · rcases List.mem_cons.1 h with rfl | h
        · exact .inl (by simp)
        · exact .inr h
theorem unTchN_get : ∀ (m : Nat) (bs : Fr) (j : Nat), (unTchN m bs)[j]? = (bs[j]?).map fun b => if j < m then b else unTch b
  | _, [], j => by simp [unTchN]
  | 0, b :: bs, 0 => by simp [unTchN]
  | 0, b :: bs, j + 1 => by
    have := unTchN_get 0 bs j
    simp [unTchN, this]
  | m + 1, b :: bs, 0 => by simp [unTchN]
  | m + 1, b :: bs, j + 1 => by
    have := unTchN_get m bs j
    simp [unTchN, this]
theorem getAll_map {f : Lb → Lb} : ∀ {l : List Nat} {bs : Fr}, getAll fr l = some bs → getAll (fr.map f) l = some (bs.map f)
  | [], bs, h => by unfold getAll at h; cases h; rfl
  | k :: r, bs, h => by
    unfold getAll at h
    split at h
    · cases h
    · rename_i b hb
      split at h
      · cases h
      · rename_i l hl
        cases h
        unfold getAll
        rw [List.getElem?_map, hb]
        simp only [Option.map_some, getAll_map hl, List.map_cons]
theorem close_pre (fr : Fr) : ∀ (n : Nat) (l : List Nat), ∃ r, close fr n l = l ++ r
  | 0, l => ⟨[], by simp [close]⟩
  | n + 1, l => by
    unfold close
    obtain ⟨r, h1⟩ := dedup_pre (refsFr fr l) l
    obtain ⟨q, h2⟩ := close_pre fr n (dedup l (refsFr fr l))
    exact ⟨r ++ q, by rw [h2, h1, List.append_assoc]⟩
/-- The blocks of some numbers, packed. -/
theorem pack_ok {F : Fr} (hC2 : Core γ κ F L w) {m : Nat} (hm : ∀ j v, κ.L j = some v → j < m) {r1 : SV} {v : Value} {ids : List Nat} {B : Fr} (hnd : ids.Nodup) (hpre : ∀ j, j < m → ids[j]? = some j) (hbs2 : getAll F ids = some B) (hrF : SR (MA κ.M F L) L w r1 v) :
    ∃ L', Core γ κ (unTchN m (B.map (Lb.sub (idxσ ids)))) L' w ∧ SR (MA κ.M (unTchN m (B.map (Lb.sub (idxσ ids)))) L') L' w (r1.sub (idxσ ids)) v := by
  obtain ⟨hbl, hbg⟩ := getAll_get hbs2
  have hget : ∀ (j : Nat) (lb' : Lb), (unTchN m (B.map (Lb.sub (idxσ ids))))[j]? = some lb' → ∃ (i : Nat) (lb : Lb), ids[j]? = some i ∧ F[i]? = some lb ∧ lb' = if j < m then lb.sub (idxσ ids) else unTch (lb.sub (idxσ ids)) := fun j lb' hj => by
    rw [unTchN_get, List.getElem?_map] at hj
    cases hb : B[j]? with
    | none => rw [hb] at hj; cases hj
    | some lb =>
      rw [hb] at hj
      cases hj
      obtain ⟨i, hi⟩ := get_of_lt (xs := ids) (k := j) (by rw [← hbl]; exact lt_of_get hb)
      obtain ⟨b, h1, h2⟩ := hbg j i hi
      rw [hb] at h2
      cases h2
      exact ⟨i, lb, hi, h1, rfl⟩
  have hlen : (unTchN m (B.map (Lb.sub (idxσ ids)))).length = ids.length := by
    rw [← hbl]
    have : ∀ (m : Nat) (bs : Fr), (unTchN m bs).length = bs.length := fun m bs => by
      induction bs generalizing m with
      | nil => cases m <;> rfl
      | cons b bs ih => cases m <;> simp [unTchN, ih]
    rw [this, List.length_map]
  obtain ⟨h1, h2, h3⟩ := hC2.refr (unTchN m (B.map (Lb.sub (idxσ ids)))) (fun j => ids.getD j 0) (idxσ ids) (fun j k hj hk e => by
      rw [hlen] at hj hk
      have ej : ids[j]? = some (ids.getD j 0) := by rw [List.getD_eq_getElem?_getD, List.getElem?_eq_getElem hj]; rfl
      have ek : ids[k]? = some (ids.getD k 0) := by rw [List.getD_eq_getElem?_getD, List.getElem?_eq_getElem hk]; rfl
      rw [e] at ej
      exact nodup_idx hnd ej ek) (fun i j v hi hv => by
      have := idxσ_some hi
      exact ⟨by rw [hlen]; exact lt_of_get this, by rw [List.getD_eq_getElem?_getD, this]; rfl⟩) (fun j lb' hj => by
      obtain ⟨i, lb, e1, e2, rfl⟩ := hget j lb' hj
      refine ⟨lb, by rw [List.getD_eq_getElem?_getD, e1]; exact e2, ?_⟩
      split
      · exact blkTo_sub _ _
      · exact blkTo_unTch (blkTo_sub _ _)) (fun j v hj => by
      have hjm := hm j v hj
      have ej : ids[j]? = some j := hpre j hjm
      obtain ⟨lb, e1, _⟩ := hC2.hand j v hj
      obtain ⟨lb2, e2, e3⟩ := hbg j j ej
      rw [e1] at e2
      cases e2
      refine ⟨lb, lb.sub (idxσ ids), e1, by rw [unTchN_get, List.getElem?_map, e3]; simp [hjm], by rw [List.getD_eq_getElem?_getD, ej]; rfl, fun ht => by rw [Lb.sub_tch] at ht; exact ht⟩)
  exact ⟨_, h1, SR.sub _ (Nat.le_refl _) (fun b _ hb => ⟨h2 b hb, rfl⟩) h3 hrF⟩
theorem fin_ok (hC : Core γ κ fr L w) {m : Nat} (hm : ∀ j v, κ.L j = some v → j < m) {r0 r : SV} {fr' : Fr} {v : Value} (h : fin m r0 fr = some (r, fr')) (hv : SR (MA κ.M fr L) L w r0 v) : ∃ L', Core γ κ fr' L' w ∧ SR (MA κ.M fr' L') L' w r v := by
  unfold fin at h
  simp only at h
  have hr1 := thaw_ok hC _ v (un_ok hv)
  generalize thaw fr (un r0) = r1 at h hr1
  split at h
  · rename_i hids
    cases h
    have hm0 : m = 0 := by
      obtain ⟨q, hq⟩ := dedup_pre r.refs (List.range m)
      rw [hq, List.append_eq_nil_iff, List.range_eq_nil] at hids
      exact hids.1
    have hrefs : r.refs = [] := by
      cases hx : r.refs with
      | nil => rfl
      | cons i l =>
        have := dedup_mem r.refs (List.range m) i (.inr (by rw [hx]; simp))
        rw [hids] at this
        cases this
    obtain ⟨h1, h2, h3⟩ := hC.refr [] (fun j => j) (fun _ => none) (fun j k hj => by simp at hj) (fun i j v h => by cases h) (fun j lb h => by simp at h) (fun j v hj => by have := hm j v hj; omega)
    exact ⟨_, h1, SR.norefs (fun b _ hb => ⟨h2 b hb, rfl⟩) (Nat.le_refl _) hr1 hrefs⟩
  · split at h
    · cases h
    · rename_i bs hbs
      have hnd : (dedup (List.range m) r1.refs).Nodup := dedup_nodup _ _ List.nodup_range
      have hpre : ∀ j, j < m → (dedup (List.range m) r1.refs)[j]? = some j := fun j hjm => by
        obtain ⟨q, hq⟩ := dedup_pre r1.refs (List.range m)
        rw [hq, List.getElem?_append_left (by simpa using hjm), List.getElem?_range hjm]
      generalize dedup (List.range m) r1.refs = ids at *
      split at h
      · split at h
        · cases h
        · rename_i bs2 hb2
          split at h
          · cases h
          · cases h
            refine pack_ok hC hm (close_nodup fr 4 ids hnd) (fun j hj => ?_) hb2 hr1
            obtain ⟨q, hq⟩ := close_pre fr 4 ids
            rw [hq, List.getElem?_append_left (lt_of_get (hpre j hj))]
            exact hpre j hj
      · cases h
        obtain ⟨hC1, hT1, hM1⟩ := hC.frz (inner m fr ids)
        obtain ⟨hC2, hM2⟩ := hC1.recells m
        have hbs2 := getAll_map (f := recellB m (freeze fr (inner m fr ids))) hbs
        exact pack_ok hC2 hm hnd hpre hbs2 (SR.on (Nat.le_refl _) (fun b _ hb => ⟨(hM2 b).1 (hM1 b hb), rfl⟩) (fun _ _ h => h) hr1)
end
end Go.Proofs.YtgbfedgghjcdcaaGreatDoor

/- The tree evaluator, 20a: code: what holds between two pieces; the evaluator's answer is the model's. Conditions: what 'Wf' asks of the program, the contracts of 'ext'. -/
namespace Go.Proofs.YtgbfedgghjcdcaaGreatDoor
set_option linter.unusedSimpArgs false
set_option linter.unusedVariables false
set_option linter.unusedSectionVars false
open Go.RowKit

/-- No loop over a function. -/
def noRF : Code → Bool
  | .seq a b => noRF a && noRF b
  | .cond _ a b => noRF a && noRF b
  | .block _ b => noRF b
  | .loop b => noRF b
  | .rangeFunc .. => false
  | _ => true
/-- What an iterator's value does: it calls yield with the tuples, one behind the other, until a round says 'no more'. The trees that it has captured lie there in each round. -/
def ISeq (γ : Glob) (P : Program) (gf : Nat) (lb : Array Value) (T : AV → Value → Prop) (yss : List (List AV)) (wh : Bool) : Prop :=
  Known P gf ∧ ∀ (l : Nat) (J : List (List AV) → (Nat → Prop) → World → Prop) (Jx : World → Prop) (A : Nat → Prop) (W : World),
    (∀ r A X Y, J r A X → Below X.heap.size X Y → J r A Y) → (∀ X Y, Jx X → Below X.heap.size X Y → Jx Y) →
    (∀ r A X, J r A X → Core γ ⟨A, fun _ => False, fun _ => False, X, fun _ => none⟩ [] (fun _ => none) X ∧ ∀ x v, T x v → VR A X x v) →
    (∀ (y : List AV) (r : List (List AV)) (A : Nat → Prop) (us : Array Value) (X : World), J (y :: r) A X → us.size = y.length → (∀ (j : Nat) (x : AV) (u : Value), y[j]? = some x → us[j]? = some u → VR A X x u) →
      ∀ m, YieldAt (Fw none) m P l us X fun e Y => (e = .returned (.bool true) ∧ ∃ A', J r A' Y) ∨ (e = .returned (.bool false) ∧ Jx Y)) →
    J yss A W →
    ∀ m, CallsIn (Fw none) m P gf (#[.func (.yield l) #[] #[]] ++ lb) W fun e Y => (∃ v, e = .returned v) ∧ ((wh = true ∧ ∃ A', J [] A' Y) ∨ Jx Y)
def Cap (xs : List AV) (lb : Array Value) (x : AV) (u : Value) : Prop := ∃ j : Nat, xs[j]? = some x ∧ lb[j]? = some u
/-- What a function's code must be. -/
def wfC (g : Cfg) (f n : Nat) : Code → Bool
  | .region id ops draw => dstOk n ops.toList && (match draw with | true => (match effK (g.eff f id) with | 0 => drawOk ops (g.eff f id) | 1 => drawOkF ops (g.eff f id) | _ => true) | false => true)
  | .seq a b => wfC g f n a && wfC g f n b
  | .cond _ a b => wfC g f n a && wfC g f n b
  | .block _ b => wfC g f n b
  | .loop b => wfC g f n b
  | .rangeFunc _ ps asg b => wfC g f n asg && wfC g f n b && noRF asg && noRF b && ps.toList.all fun p => Nat.blt p n
  | _ => true
def wfF (g : Cfg) (f : Nat) : Bool := match g.P.funcs[f]? with
  | none => false
  | some fn => match fn.body with
    | none => false
    | some c => wfC g f fn.ntmps c && !(fn.name == "runtime.NumGoroutine") && Nat.ble fn.results.size 4
structure Wf (g : Cfg) (γ : Glob) : Prop where
  seq : ∀ (gf : Nat) (xs : List AV) (yss : List (List AV)) (wh : Bool), g.seq gf xs = some (yss, wh) → ∀ (lb : Array Value), lb.size = xs.length → ISeq γ g.P gf lb (Cap xs lb) yss wh := by intro _ _ _ _ h; cases h
  mixed : g.P.follows .mixedOrders = true
  fns : ∀ f, g.ok f = true → wfF g f = true
  ext : ∀ (f : Nat) (xs : List AV) (r : SV) (fr' : Fr), g.ext f xs = some (r, fr') → Known g.P f ∧ ∀ (κ : Ctx) (w : World) (us : Array Value), Core γ κ [] κ.L w → κ.W = w → us.size = xs.length → (∀ (j : Nat) (x : AV) (u : Value), xs[j]? = some x → us[j]? = some u → VR (MA κ.M [] κ.L) w x u) →
    Calls g.P f us w fun e w' => ∃ v L', e = .returned v ∧ Core γ κ fr' L' w' ∧ SR (MA κ.M fr' L') L' w' r v
def Out.toExit : Out → Exit
  | .normal => .normal
  | .exit id => .exit id
  | .ret => .ret
/-- What holds between two pieces of code. -/
def At (γ : Glob) (κ : Ctx) (n : Nat) (env : Env) (fr : Fr) (a : Act) (w : World) : Prop := Marks κ w a.defers ∧ a.tmps.size = n ∧ ∃ L, Core γ κ fr L w ∧ ∀ t, SR (MA κ.M fr L) L w (env t) (a.tmps.getD t undef)
def Post (γ : Glob) (κ : Ctx) (n : Nat) (o : Out) (env : Env) (fr : Fr) : Exit → Act → World → Prop := fun e a w => e = o.toExit ∧ At γ κ n env fr a w
def LoopSnd (g : Cfg) (γ : Glob) (Lp : LoopF) : Prop := ∀ (f : Nat) (b : Code) (env : Env) (fr : Fr) (o : Out) (env' : Env) (fr' : Fr), Lp f b env fr = some (o, env', fr') → ∀ n, wfC g f n b = true → ∀ κ rd dn a w, (rd = none ∨ noRF b = true) → At γ κ n env fr a w → (Code.loop b).wpIn (Fw rd) dn g.P (Post γ κ n o env' fr') a w
section
variable {g : Cfg} {γ : Glob} {κ : Ctx} {C : CallF} {Lp : LoopF} {n : Nat}
theorem At.own {env : Env} {fr : Fr} {a : Act} {w : World} : ∀ (sl : List (Nat × Nat)) (env : Env) (fr : Fr), At γ κ n env fr a w → At γ κ n (ownE sl env fr).1 (ownE sl env fr).2 a w
  | [], env, fr, h => h
  | (t, sz) :: r, env, fr, h => by
    have key : (∀ (L : Ls), SR (MA κ.M fr L) L w (env t) (a.tmps.getD t undef) → ∃ q, a.tmps.getD t undef = .slice q 0 0) → At γ κ n (upd env t (.ls fr.length)) (fr ++ [.row false false sz []]) a w := fun hq => by
      obtain ⟨h1, h2, L, hC, hV⟩ := h
      obtain ⟨q, hq⟩ := hq L (hV t)
      obtain ⟨hC', hT⟩ := hC.push (Below.refl _ _) (.row false false sz []) (.slice q 0 0) (fun b hb => by cases q <;> cases hb) fun hT => ⟨0, _, [], Lput_self, .inl ⟨rfl, rfl, q, rfl⟩, by rw [List.length_nil]; omega, fun k cs hk => by simp at hk, fun k j cs x hk _ => by simp at hk⟩
      refine ⟨h1, h2, _, hC', fun u => ?_⟩
      by_cases hu : u = t
      · subst hu
        rw [upd_same, hq]
        exact .ls _ _ Lput_self rfl
      · rw [upd_ne hu]; exact hT.sr (hV u)
    unfold ownE
    split
    · split
      · rename_i x hx
        refine At.own (env := env) (fr := fr) r _ _ ?_
        obtain ⟨h1, h2, L, hC, hV⟩ := h
        obtain ⟨hC1, hT1, hM1⟩ := hC.frz (rch fr deep (un (env t)))
        refine ⟨h1, h2, L, hC1, fun u => ?_⟩
        by_cases hu : u = t
        · subst hu
          rw [upd_same]
          exact .t _ _ ((toAV_ok hC hM1 deep).1 _ x _ hx (frz_free hC) (un_ok (hV u)))
        · rw [upd_ne hu]; exact hT1.sr (hV u)
      · exact At.own (env := env) (fr := fr) r _ _ h
    split
    · rename_i he
      exact At.own (env := env) (fr := fr) r _ _ (key fun L hs => by rw [he] at hs; generalize a.tmps.getD t undef = z at hs; cases hs; exact ⟨none, rfl⟩)
    · rename_i he
      exact At.own (env := env) (fr := fr) r _ _ (key fun L hs => by rw [he] at hs; generalize a.tmps.getD t undef = z at hs; cases hs with | tc _ q _ => exact ⟨q, rfl⟩)
    · exact At.own (env := env) (fr := fr) r _ _ h
theorem mkEnv_ok {A : Nat → Prop} {L : Ls} {w : World} {tm : Nat → Value} : ∀ (l : List (Nat × SV)), (∀ p ∈ l, SR A L w p.2 (tm p.1)) → ∀ t, SR A L w (mkEnv l t) (tm t)
  | [], _, t => .dead _
  | (k, v) :: r, h, t => by
    unfold mkEnv
    split
    · rename_i ht
      obtain rfl : t = k := by simpa using ht
      exact h (t, v) (by simp)
    · exact mkEnv_ok r (fun p hp => h p (by simp [hp])) t
theorem trim_frz (h : Nat) (fr : Fr) : Go.Proofs.YtgbfedgghjcdcaaGreatDoor.trim h (freeze fr ((List.range fr.length).filter (Nat.ble h))) = Go.Proofs.YtgbfedgghjcdcaaGreatDoor.trim h fr := by
  unfold Go.Proofs.YtgbfedgghjcdcaaGreatDoor.trim
  rw [freeze_len]
  split
  · rename_i hle
    rw [Nat.ble_eq] at hle
    have : (List.range fr.length).filter (Nat.ble h) = [] := by
      rw [List.filter_eq_nil_iff]
      intro i hi
      have := List.mem_range.1 hi
      rw [Nat.ble_eq]
      omega
    rw [this]
    rfl
  · congr 1
    apply List.ext_getElem?
    intro j
    rw [List.getElem?_take, List.getElem?_take]
    split
    · rename_i hj
      rw [freeze_get]
      have : hasN ((List.range fr.length).filter (Nat.ble h)) j = false := by
        rw [hasN_not]
        intro hm
        have := (List.mem_filter.1 hm).2
        rw [Nat.ble_eq] at this
        omega
      rw [this]
      cases fr[j]? with
      | none => rfl
      | some lb => cases lb <;> rfl
    · rfl
theorem At.handed {env : Env} {fr : Fr} {a : Act} {w : World} (hA : At γ κ n env fr a w) : ∀ j v, κ.L j = some v → j < fr.length := fun j v hj => by
  obtain ⟨_, _, L, hC, _⟩ := hA
  obtain ⟨lb, h1, _⟩ := hC.hand j v hj
  exact lt_of_get h1
theorem At.head {lv : Option (List Nat)} {h : Nat} {env : Env} {fr : Fr} {a : Act} {w : World} (hA : At γ κ n env fr a w) (hh : ∀ j v, κ.L j = some v → j < h) : At γ κ n (head lv h env fr).1 (head lv h env fr).2 a w := by
  unfold Go.Proofs.YtgbfedgghjcdcaaGreatDoor.head
  split
  · exact hA
  · rename_i l
    have hh : ∀ j v, κ.L j = some v → j < hOf l h fr := fun j v hj => by
      unfold hOf
      split
      · exact hA.handed j v hj
      · exact hh j v hj
    simp only
    generalize hOf l h fr = h at hh ⊢
    obtain ⟨h1, h2, L, hC, hV⟩ := hA
    obtain ⟨hC1, hT1, hM1⟩ := hC.frz ((List.range fr.length).filter (Nat.ble h))
    obtain ⟨L', hC', hS⟩ := hC1.trim h hh
    rw [trim_frz] at hC' hS
    refine ⟨h1, h2, L', hC', fun t => mkEnv_ok (tm := fun t => a.tmps.getD t undef) _ (fun p hp => ?_) t⟩
    obtain ⟨k, _, rfl⟩ := List.mem_map.1 hp
    have hk := un_ok (hV k)
    show SR _ _ _ (cutV fr h (un (env k))) _
    unfold cutV
    split
    · exact hS _ _ (hT1.sr hk)
    · split
      · rename_i x hall hx
        have hv := (toAV_ok hC hM1 deep).1 _ x _ hx (fun i hi u b hu hb => by
          refine frz_free hC i ?_ u b hu hb
          have := List.all_eq_true.1 hall i hi
          exact List.mem_filter.2 ⟨List.mem_range.2 (hC.lim i u hu), this⟩) hk
        have := hS _ _ (SR.t x _ hv)
        rw [SV.sub] at this
        exact this
      · exact hS _ _ (hT1.sr hk)
end
end Go.Proofs.YtgbfedgghjcdcaaGreatDoor

/- The tree evaluator, 20b: loops over functions: a round gets all blocks handed over. No condition but the iterator's contract. -/
namespace Go.Proofs.YtgbfedgghjcdcaaGreatDoor
set_option linter.unusedSimpArgs false
set_option linter.unusedVariables false
set_option linter.unusedSectionVars false
open Go.RowKit

section
variable {γ : Glob} {κ : Ctx} {fr : Fr} {L : Ls} {w : World}
theorem Marks.below {w' : World} {ds : List Deferred} (h : Marks κ w ds) (hb : Below w.heap.size w w') : Marks κ w' ds := by
  obtain ⟨Ds, h1, h2, h3⟩ := h
  exact ⟨Ds, h1, h2, fun D hD => ⟨(h3 D hD).1, (hb.block D (Array.getElem?_eq_some_iff.1 (h3 D hD).2).1).trans (h3 D hD).2⟩⟩
theorem Marks.put {l : Nat} {r : Loop} {o : Obj} {ds : List Deferred} (h : Marks κ w ds) (hl : w.heap[l]? = some (.loop r)) : Marks κ (w.putObj l o) ds := by
  obtain ⟨Ds, h1, h2, h3⟩ := h
  refine ⟨Ds, h1, h2, fun D hD => ⟨(h3 D hD).1, ?_⟩⟩
  have hne : D ≠ l := fun e => by subst e; rw [(h3 D hD).2] at hl; cases hl
  exact (World.putObj_heap_other hne).trans (h3 D hD).2
/-- The call's reference world is another one, that differs in marks and records alone. -/
theorem Core.reb (h : Core γ κ fr L w) {W1 w1 : World} (hW : Lq γ.n κ.W W1) (hw : Lq γ.n w w1) (hk : ∀ k, k < κ.W.heap.size → ¬ κ.X k → w1.heap[k]? = W1.heap[k]?) : Core γ ⟨κ.M, κ.X, κ.H, W1, κ.L⟩ fr L w1 where
  glob := γ.stays _ _ h.glob fun k hk => by
    rcases hw.blk k with h1 | ⟨hB, _⟩
    · exact h1
    · omega
  gn := by show γ.n ≤ W1.heap.size; rw [hW.size]; exact h.gn
  gx := fun b hb => by show _ ∧ b < W1.heap.size; rw [hW.size]; exact h.gx b hb
  fresh := fun b hb => h.fresh b (by have hb : W1.heap.size ≤ b := hb; rw [hW.size] at hb; exact hb)
  os := (hw.os.trans h.os).trans hW.os.symm
  tape := (hw.tape.trans h.tape).trans hW.tape.symm
  output := (hw.output.trans h.output).trans hW.output.symm
  size := by show W1.heap.size ≤ _; rw [hW.size, hw.size]; exact h.size
  kept := fun k hk1 hx => hk k (by have hk1 : k < W1.heap.size := hk1; rw [hW.size] at hk1; exact hk1) hx
  lim := h.lim
  new := fun i v b lb h1 h2 h3 => by
    show _ ∧ _ ∧ (W1.heap.size ≤ b ∨ _) ∧ (_ → W1.heap.size ≤ b ∨ _)
    rw [hw.size, hW.size]
    exact h.new i v b lb h1 h2 h3
  dis := h.dis
  hand := h.hand
  blk := fun i lb hi => (h.blk i lb hi).lq hw
theorem setPs_ok {A : Nat → Prop} : ∀ (ps : List Nat) (ys : List AV) (us : List Value) (env : Env) (tm : Array Value), ps.length = ys.length → us.length = ys.length → (∀ p ∈ ps, p < tm.size) → (∀ t, SR A L w (env t) (tm.getD t undef)) → (∀ (j : Nat) (x : AV) (u : Value), ys[j]? = some x → us[j]? = some u → VR A w x u) →
    ∀ t, SR A L w (setPs ps ys env t) (((ps.zip us).foldl (fun t (p, v) => t.setIfInBounds p v) tm).getD t undef)
  | [], ys, us, env, tm, _, _, _, h, _ => by unfold setPs; simpa using h
  | p :: ps, [], us, env, tm, h1, _, _, _, _ => by cases h1
  | p :: ps, y :: ys, [], env, tm, _, h2, _, _, _ => by cases h2
  | p :: ps, y :: ys, u :: us, env, tm, h1, h2, hp, h, hr => by
    unfold setPs
    rw [List.zip_cons_cons, List.foldl_cons]
    refine setPs_ok ps ys us _ _ (by simpa using h1) (by simpa using h2) (fun q hq => by rw [Array.size_setIfInBounds]; exact hp q (by simp [hq])) (fun t => ?_) (fun j x v hx hv => hr (j + 1) x v (by simpa using hx) (by simpa using hv)) 
    by_cases ht : t = p
    · subst ht
      rw [upd_same, Array.getD_eq_getD_getElem?, Array.getElem?_setIfInBounds_self_of_lt (hp t (by simp))]
      exact .t _ _ (hr 0 y u rfl rfl)
    · rw [upd_ne ht, Array.getD_eq_getD_getElem?, Array.getElem?_setIfInBounds_ne (Ne.symm ht), ← Array.getD_eq_getD_getElem?]
      exact h t
theorem zipfold_size : ∀ (l : List (Nat × Value)) (tm : Array Value), (l.foldl (fun t (p, v) => t.setIfInBounds p v) tm).size = tm.size
  | [], _ => rfl
  | (p, v) :: l, tm => by rw [List.foldl_cons, zipfold_size l]; exact Array.size_setIfInBounds
def Out.code : Out → Code
  | .normal => .skip
  | .exit id => .exit id
  | .ret => .ret
/-- Between two rounds: the record is ready; the block for deferred calls is empty. -/
structure Rdy (γ : Glob) (κ : Ctx) (T : AV → Value → Prop) (S : Nat) (lo : Loop) (tm : Array Value) (ds : List Deferred) (env : Env) (fr : Fr) (L : Ls) (X : World) : Prop where
  core : Core γ κ fr L X
  env : ∀ t, SR (MA κ.M fr L) L X (env t) (tm.getD t undef)
  cap : ∀ x v, T x v → VR (MA κ.M fr L) X x v
  marks : Marks κ X ds
  recd : X.heap[S + 1]? = some (.loop lo)
  dfr : X.heap[S]? = some (.deferred (some []))
variable {T : AV → Value → Prop} {S : Nat} {lo lo' : Loop} {tm : Array Value} {ds : List Deferred} {env : Env} {X Y : World}
theorem Rdy.below (h : Rdy γ κ T S lo tm ds env fr L X) (hb : Below X.heap.size X Y) : Rdy γ κ T S lo tm ds env fr L Y where
  core := h.core.later hb
  env := fun t => (h.env t).later hb
  cap := fun x v hx => (h.cap x v hx).later hb
  marks := h.marks.below hb
  recd := (hb.block _ (Array.getElem?_eq_some_iff.1 h.recd).1).trans h.recd
  dfr := (hb.block _ (Array.getElem?_eq_some_iff.1 h.dfr).1).trans h.dfr
theorem Rdy.put (hS : κ.W.heap.size ≤ S) (h : Rdy γ κ T S lo tm ds env fr L X) : Rdy γ κ T S lo' tm ds env fr L (X.putObj (S + 1) (.loop lo')) where
  core := h.core.lq (Lq.put (by omega) h.recd rfl)
  env := fun t => (h.env t).lq (Lq.put (B := S + 1) (Nat.le_refl _) h.recd rfl)
  cap := fun x v hx => (h.cap x v hx).lq (Lq.put (B := S + 1) (Nat.le_refl _) h.recd rfl)
  marks := h.marks.put h.recd
  recd := World.putObj_heap_same (Array.getElem?_eq_some_iff.1 h.recd).1
  dfr := (World.putObj_heap_other (by omega)).trans h.dfr
theorem Rdy.head {lv : Option (List Nat)} {h : Nat} (hA : Rdy γ κ T S lo tm ds env fr L X) (hh : ∀ j v, κ.L j = some v → j < h) : ∃ L', Rdy γ κ T S lo tm ds (head lv h env fr).1 (head lv h env fr).2 L' X := by
  unfold Go.Proofs.YtgbfedgghjcdcaaGreatDoor.head
  split
  · exact ⟨L, hA⟩
  · rename_i l
    have hh : ∀ j v, κ.L j = some v → j < hOf l h fr := fun j v hj => by
      unfold hOf
      split
      · obtain ⟨lb, h1, _⟩ := hA.core.hand j v hj
        exact lt_of_get h1
      · exact hh j v hj
    simp only
    generalize hOf l h fr = h at hh ⊢
    obtain ⟨hC1, hT1, hM1⟩ := hA.core.frz ((List.range fr.length).filter (Nat.ble h))
    obtain ⟨L', hC', hS⟩ := hC1.trim h hh
    rw [trim_frz] at hC' hS
    refine ⟨L', hC', fun t => mkEnv_ok (tm := fun t => tm.getD t undef) _ (fun p hp => ?_) t, fun x v hx => ?_, hA.marks, hA.recd, hA.dfr⟩
    · obtain ⟨k, _, rfl⟩ := List.mem_map.1 hp
      have hk := un_ok (hA.env k)
      show SR _ _ _ (cutV fr h (un (env k))) _
      unfold cutV
      split
      · exact hS _ _ (hT1.sr hk)
      · split
        · rename_i x hall hx
          have hv := (toAV_ok hA.core hM1 deep).1 _ x _ hx (fun i hi u b hu hb => by
            refine frz_free hA.core i ?_ u b hu hb
            have := List.all_eq_true.1 hall i hi
            exact List.mem_filter.2 ⟨List.mem_range.2 (hA.core.lim i u hu), this⟩) hk
          have := hS _ _ (SR.t x _ hv)
          rw [SV.sub] at this
          exact this
        · exact hS _ _ (hT1.sr hk)
    · have := hS _ _ (SR.t x _ (hT1.vr (hA.cap x v hx)))
      rw [SV.sub] at this
      cases this with
      | t _ _ hv => exact hv
theorem Loop.ready_eq (h1 : lo.state = .ready) (h2 : lo.pending = none) : { { lo with state := .busy } with state := .ready, pending := none } = lo := by
  cases lo; simp_all
/-- One round. -/
theorem round_ok {g : Cfg} {n : Nat} {lv : Option (List Nat)} {A B : Env → Fr → Option (Out × Env × Fr)} {asg body : Code}
    (hA : ∀ env fr o env' fr', A env fr = some (o, env', fr') → ∀ κ l dn a w, At γ κ n env fr a w → asg.wpIn (Fw (some l)) dn g.P (Post γ κ n o env' fr') a w)
    (hB : ∀ env fr o env' fr', B env fr = some (o, env', fr') → ∀ κ l dn a w, At γ κ n env fr a w → body.wpIn (Fw (some l)) dn g.P (Post γ κ n o env' fr') a w)
    (hps : ∀ p ∈ lo.params.toList, p < n) (hS : κ.W.heap.size ≤ S) (h1 : lo.state = .ready) (h2 : lo.pending = none) (h3 : lo.assign = asg) (h4 : lo.body = body) (htm : lo.tmps.size = n)
    (h : Rdy γ κ T S lo lo.tmps ds env fr L X) {y : List AV} {o : Out} {e : Env} {r : Fr} (hr : roundE lv A B lo.params.toList y env fr = some (o, e, r)) {us : Array Value} (hus : us.size = y.length)
    (hv : ∀ (j : Nat) (x : AV) (u : Value), y[j]? = some x → us[j]? = some u → VR (MA κ.M fr L) X x u) (m : Nat) :
    YieldAt (Fw none) m g.P (S + 1) us X fun en Y => (o = .normal ∧ en = .returned (.bool true) ∧ ∃ L', Rdy γ κ T S lo lo.tmps ds e r L' Y) ∨ (o ≠ .normal ∧ en = .returned (.bool false) ∧ ∃ L', Rdy γ κ T S { lo with state := .done, pending := some o.code } lo.tmps ds e r L' Y) := by
  have hγ : γ.n ≤ S + 1 := by have := h.core.gn; omega
  unfold roundE at hr
  split at hr
  · cases hr
  rename_i hlen
  rw [Nat.beq_eq] at hlen
  split at hr
  · cases hr
  rename_i bs hb
  split at hr
  rotate_left
  · cases hr
  rename_i e1 r1 hAe
  split at hr
  · cases hr
  rename_i o1 e2 r2 hBe
  split at hr
  · cases hr
  rename_i hkd
  obtain ⟨c1, c2, c3⟩ := h.core.handed List.nodup_range hb
  have hnX : ¬ (handCtx κ fr L X (List.range fr.length)).X (S + 1) := fun ⟨i, _, v, lb, q1, q2, q3, q4⟩ => (h.core.mark (by omega) h.recd rfl).2 ⟨i, v, lb, q1, q2, q3, q4⟩
  have hlt : S + 1 < X.heap.size := (Array.getElem?_eq_some_iff.1 h.recd).1
  have at0 : At γ (handCtx κ fr L X (List.range fr.length)) n (setPs lo.params.toList y fun t => (env t).sub (idxσ (List.range fr.length))) (bs.map fun b => unTch (b.sub (idxσ (List.range fr.length)))) { tmps := (lo.params.zip us).foldl (fun t (p, v) => t.setIfInBounds p v) lo.tmps, defers := [] } X := by
    have hz : (lo.params.zip us).foldl (fun t (p, v) => t.setIfInBounds p v) lo.tmps = (lo.params.toList.zip us.toList).foldl (fun t (p, v) => t.setIfInBounds p v) lo.tmps := by
      rw [← Array.foldl_toList, Array.toList_zip]
    rw [hz]
    refine ⟨Marks.nil, (zipfold_size _ _).trans htm, _, c1, setPs_ok _ _ _ _ _ (by rw [hlen]) (by simpa using hus) (fun p hp => by rw [htm]; exact hps p hp) (fun t => c3 _ _ (h.env t)) fun j x u hx hu => ?_⟩
    exact VR.on (Nat.le_refl _) (fun b _ hm => ⟨c2 b hm, rfl⟩) (hv j x u hx (by simpa using hu))
  refine ⟨lo.fn, (lo.params.zip us).foldl (fun t (p, v) => t.setIfInBounds p v) lo.tmps, asg, body, ?_, roundIn_of_wpIn trivial ?_⟩
  · have := run_yield (P := g.P) (args := us) h.recd (by rw [hus, hlen]; simp)
    rw [h3, h4] at this
    exact this
  refine wpIn_mono (hA _ _ _ _ _ hAe _ (S + 1) m _ X at0) fun ex a1 X1 ⟨he, m1, s1, L1, hC1, hV1⟩ => ?_
  subst he
  have hl1 : X1.heap[S + 1]? = some (.loop lo) := (hC1.kept (S + 1) hlt hnX).trans h.recd
  refine ⟨_, run_beginRound hl1 h1, ?_⟩
  have hC2 : Core γ ⟨(handCtx κ fr L X (List.range fr.length)).M, (handCtx κ fr L X (List.range fr.length)).X, (handCtx κ fr L X (List.range fr.length)).H, X.putObj (S + 1) (.loop { lo with state := .busy }), (handCtx κ fr L X (List.range fr.length)).L⟩ r1 L1 (X1.putObj (S + 1) (.loop { lo with state := .busy })) :=
    hC1.reb (Lq.put hγ h.recd rfl) (Lq.put hγ hl1 rfl) fun k hk hx => by
      by_cases hkS : k = S + 1
      · subst hkS
        rw [World.putObj_heap_same hlt, World.putObj_heap_same (Array.getElem?_eq_some_iff.1 hl1).1]
      · rw [World.putObj_heap_other hkS, World.putObj_heap_other hkS]
        exact hC1.kept k hk hx
  have at2 : At γ _ n e1 r1 a1 (X1.putObj (S + 1) (.loop { lo with state := .busy })) := ⟨by
    obtain ⟨Ds, n1, n2, n3⟩ := m1.put (o := .loop { lo with state := .busy }) hl1
    exact ⟨Ds, n1, n2, fun D hD => ⟨by
      show (X.putObj (S + 1) _).heap.size ≤ D
      rw [World.putObj_size]; exact (n3 D hD).1, (n3 D hD).2⟩⟩, s1, L1, hC2, fun t => (hV1 t).lq (Lq.put (B := S + 1) (Nat.le_refl _) hl1 rfl)⟩
  refine wpIn_mono (hB _ _ _ _ _ hBe _ (S + 1) m a1 _ at2) fun ex a3 X3 ⟨he, _, _, L3, hC3, hV3⟩ => ?_
  subst he
  have hl3 : X3.heap[S + 1]? = some (.loop { lo with state := .busy }) := (hC3.kept (S + 1) (by show S + 1 < (X.putObj (S + 1) _).heap.size; rw [World.putObj_size]; exact hlt) hnX).trans (World.putObj_heap_same hlt)
  have hC4 : Core γ (handCtx κ fr L X (List.range fr.length)) r2 L3 (X3.putObj (S + 1) (.loop lo)) := by
    refine hC3.reb (W1 := X) ⟨rfl, rfl, rfl, World.putObj_size.symm, fun b => ?_⟩ (Lq.put hγ hl3 rfl) fun k hk hx => ?_
    · by_cases hb' : b = S + 1
      · subst hb'; exact .inr ⟨hγ, _, World.putObj_heap_same hlt, rfl⟩
      · exact .inl (World.putObj_heap_other hb').symm
    · by_cases hkS : k = S + 1
      · subst hkS
        rw [World.putObj_heap_same (Array.getElem?_eq_some_iff.1 hl3).1]; exact h.recd.symm
      · rw [World.putObj_heap_other hkS, hC3.kept k hk hx]
        exact World.putObj_heap_other hkS
  obtain ⟨b1, b2, b3, b4⟩ := h.core.back List.nodup_range hb hC4 hkd
  have r4 : Rdy γ κ T S lo lo.tmps ds (killE (touched (List.range fr.length) r2) env) (back (List.range fr.length) fr r2) (backL (List.range fr.length) fr.length L L3) (X3.putObj (S + 1) (.loop lo)) :=
    ⟨b1, fun t => b2.env (h.env t), fun x v hx => b2.vr (h.cap x v hx), h.marks.tr h.core b2, World.putObj_heap_same (Array.getElem?_eq_some_iff.1 hl3).1, (b2.same S (by omega) (h.core.mark hS h.dfr rfl)).2.trans h.dfr⟩
  have hhand : ∀ j v, κ.L j = some v → j < fr.length := fun j v hj => by
    obtain ⟨lb, q1, _⟩ := h.core.hand j v hj
    exact lt_of_get q1
  have fin : ∀ (o1 : Out), o1 ≠ .normal → ∃ v w', (Instr.endRound (S + 1) (some o1.code)).run g.P X3 = .ok v w' ∧ v = .bool false ∧ Rdy γ κ T S { lo with state := .done, pending := some o1.code } lo.tmps ds (killE (touched (List.range fr.length) r2) env) (back (List.range fr.length) fr r2) (backL (List.range fr.length) fr.length L L3) w' := fun o1 _ => by
    refine ⟨_, _, run_endRound (some o1.code) hl3, rfl, ?_⟩
    have := r4.put (lo' := { lo with state := .done, pending := some o1.code }) hS
    have e : (X3.putObj (S + 1) (.loop lo)).putObj (S + 1) (.loop { lo with state := .done, pending := some o1.code }) = X3.putObj (S + 1) (.loop { lo with state := .done, pending := some o1.code }) := by
      simp [World.putObj]
    rw [e] at this
    exact this
  cases o1 with
  | normal =>
    simp only at hr
    cases hr
    have := run_endRound (P := g.P) none hl3
    refine ⟨_, _, this, .inl ⟨rfl, rfl, ?_⟩⟩
    have e : ({ { lo with state := .busy } with state := if (none : Option Code).isNone then .ready else .done, pending := none } : Loop) = lo := Loop.ready_eq h1 h2
    rw [e]
    exact r4.head hhand
  | exit id =>
    simp only at hr
    cases hr
    obtain ⟨v, w', q1, rfl, q2⟩ := fin (.exit id) (by simp)
    exact ⟨_, w', q1, .inr ⟨by simp, rfl, _, q2⟩⟩
  | ret =>
    simp only at hr
    cases hr
    obtain ⟨v, w', q1, rfl, q2⟩ := fin .ret (by simp)
    exact ⟨_, w', q1, .inr ⟨by simp, rfl, _, q2⟩⟩
/-- The loop. -/
theorem range_ok {g : Cfg} {n dn : Nat} {lv : Option (List Nat)} {Aa B : Env → Fr → Option (Out × Env × Fr)} {op : Operand} {ps : Array Tmp} {asg body : Code} {a : Act} {gf : Nat} {lb : Array Value} {yss : List (List AV)} {wh : Bool} {o : Out} {env' : Env} {fr' : Fr}
    (hA : ∀ env fr o env' fr', Aa env fr = some (o, env', fr') → ∀ κ l dn a w, At γ κ n env fr a w → asg.wpIn (Fw (some l)) dn g.P (Post γ κ n o env' fr') a w)
    (hB : ∀ env fr o env' fr', B env fr = some (o, env', fr') → ∀ κ l dn a w, At γ κ n env fr a w → body.wpIn (Fw (some l)) dn g.P (Post γ κ n o env' fr') a w)
    (hps : ∀ p ∈ ps.toList, p < n) (hg : a.eval op = .func (.func gf) #[] lb) (hseq : ISeq γ g.P gf lb T yss wh) (h : roundsE lv Aa B ps.toList wh yss env fr = some (o, env', fr'))
    (hd : Marks κ w a.defers) (hn : a.tmps.size = n) (hC : Core γ κ fr L w) (hV : ∀ t, SR (MA κ.M fr L) L w (env t) (a.tmps.getD t undef)) (hcap : ∀ x v, T x v → VR (MA κ.M fr L) w x v) :
    (Code.rangeFunc op ps asg body).wpIn (Fw none) dn g.P (Post γ κ n o env' fr') a w := by
  refine wpIn_rangeFunc fun fn _ => ?_
  obtain ⟨hk, hseq⟩ := hseq
  obtain ⟨lo, hlo⟩ : ∃ lo : Loop, lo = { state := .ready, pending := none, fn, tmps := a.tmps, params := ps, assign := asg, body, defers := w.heap.size } := ⟨_, rfl⟩
  have hsz : κ.W.heap.size ≤ w.heap.size := hC.size
  have htms : lo.tmps = a.tmps := by rw [hlo]
  have hbel : Below w.heap.size w ((w.alloc (.deferred (some []))).alloc (.loop lo)) := ((Below.refl _ w).alloc (Nat.le_refl _) _).alloc (by simp) _
  have r1 : Rdy γ κ T w.heap.size lo lo.tmps a.defers env fr L ((w.alloc (.deferred (some []))).alloc (.loop lo)) := by
    refine ⟨hC.later hbel, fun t => ?_, fun x v hx => (hcap x v hx).later hbel, hd.below hbel, ?_, ?_⟩
    · rw [htms]; exact (hV t).later hbel
    · have := World.alloc_heap_new (w.alloc (.deferred (some []))) (.loop lo)
      rwa [World.size_alloc] at this
    · exact (Below.heap_alloc _ _ _ (by simp)).trans (World.alloc_heap_new w _)
  have hend : ∀ {L1 : Ls} {lo' : Loop} {e : Env} {r : Fr} {Y : World}, Rdy γ κ T w.heap.size lo' lo.tmps a.defers e r L1 Y → At γ κ n e r { a with defers := [{ target := .collected w.heap.size, args := #[] }] ++ a.defers } (Y.putObj (w.heap.size + 1) (.loop { lo' with state := .exhausted })) := fun {L1 lo' e r Y} hr => by
    have h1 := hr.put (lo' := { lo' with state := .exhausted }) hsz
    refine ⟨?_, hn, L1, h1.core, fun t => ?_⟩
    · obtain ⟨Ds, n1, n2, n3⟩ := h1.marks
      obtain ⟨Ds0, m1, m2, m3⟩ := hd
      have hDs : Ds = Ds0 := by
        have := n2.symm.trans m2
        exact List.map_inj_right (fun x y hxy => by simpa using hxy) |>.1 this
      subst hDs
      refine ⟨w.heap.size :: Ds, List.nodup_cons.2 ⟨fun hm => ?_, n1⟩, ?_, fun D hD => ?_⟩
      · have := (Array.getElem?_eq_some_iff.1 (m3 _ hm).2).1
        omega
      · show _ :: a.defers = _
        rw [n2]; rfl
      · rcases List.mem_cons.1 hD with rfl | hD
        · exact ⟨hsz, h1.dfr⟩
        · exact n3 D hD
    · have := h1.env t
      rw [htms] at this
      exact this
  refine ⟨w.heap.size + 1, [{ target := .collected w.heap.size, args := #[] }], (w.alloc (.deferred (some []))).alloc (.loop lo), { target := .fn (.func gf) lb, args := #[.func (.yield (w.heap.size + 1)) #[] #[]] }, (w.alloc (.deferred (some []))).alloc (.loop lo), gf, #[.func (.yield (w.heap.size + 1)) #[] #[]] ++ lb, (w.alloc (.deferred (some []))).alloc (.loop lo), ?_, ?_, fun _ _ => trivial, ?_, (fun hh => by cases hh), ?_⟩
  · rw [hlo]; exact run_enterLoop_outer _ _ _ _ _
  · simp only [resolve, hg]
    simp [go_sem]
  · simp [invoke, go_sem, run_callFunc hk]
  · refine (hseq (w.heap.size + 1) (fun q A X => ∃ e r L1, roundsE lv Aa B ps.toList wh q e r = some (o, env', fr') ∧ A = MA κ.M r L1 ∧ Rdy γ κ T w.heap.size lo lo.tmps a.defers e r L1 X)
      (fun X => o ≠ .normal ∧ ∃ L1, Rdy γ κ T w.heap.size { lo with state := .done, pending := some o.code } lo.tmps a.defers env' fr' L1 X) _ _ ?_ ?_ ?_ ?_ ⟨env, fr, L, h, rfl, r1⟩ (dn - 1)).mono ?_
    · rintro q A X Y ⟨e, r, L1, q1, q2, q3⟩ hb
      exact ⟨e, r, L1, q1, q2, q3.below hb⟩
    · rintro X Y ⟨q1, L1, q3⟩ hb
      exact ⟨q1, L1, q3.below hb⟩
    · rintro q A X ⟨e, r, L1, q1, rfl, q3⟩
      exact ⟨q3.core.pure _ fun b hb => ⟨q3.core.fresh b (Nat.le_trans q3.core.size hb), fun ho => by have := (q3.core.own ho).1; omega⟩, q3.cap⟩
    · rintro y q A us X ⟨e, r, L1, q1, rfl, q3⟩ hus hv m
      unfold roundsE at q1
      have go : ∀ {o1 : Out} {e1 : Env} {f1 : Fr}, roundE lv Aa B ps.toList y e r = some (o1, e1, f1) → YieldAt (Fw none) m g.P (w.heap.size + 1) us X _ := fun {o1 e1 f1} hr =>
        round_ok (lo := lo) (asg := asg) (body := body) hA hB (by rw [hlo]; exact hps) hsz (by rw [hlo]) (by rw [hlo]) (by rw [hlo]) (by rw [hlo]) (by rw [hlo]; exact hn) q3 (by rw [hlo]; exact hr) hus hv m
      split at q1
      · rename_i e1 f1 hr
        obtain ⟨fn, tmps, ag, bd, y1, y2⟩ := go hr
        refine ⟨fn, tmps, ag, bd, y1, y2.mono ?_⟩
        rintro en Y (⟨_, z1, L2, z2⟩ | ⟨z0, _⟩)
        · exact .inl ⟨z1, _, _, _, _, q1, rfl, z2⟩
        · exact absurd rfl z0
      · rename_i hno
        obtain ⟨fn, tmps, ag, bd, y1, y2⟩ := go q1
        refine ⟨fn, tmps, ag, bd, y1, y2.mono ?_⟩
        rintro en Y (⟨z0, _⟩ | ⟨z0, z1, L2, z2⟩)
        · subst z0; exact absurd q1 (hno _ _)
        · exact .inr ⟨z1, z0, L2, z2⟩
    · rintro en Y ⟨⟨v, rfl⟩, ⟨hwh, A', e, r, L1, q1, _, q3⟩ | ⟨q1, L1, q3⟩⟩
      · subst hwh
        cases q1
        have := run_endLoop (P := g.P) q3.recd (by rw [hlo]; simp)
        have hp : lo.pending = none := by rw [hlo]
        refine ⟨lo.pending, _, this, ?_⟩
        split
        · exact ⟨rfl, hend q3⟩
        · rename_i hc
          rw [hp] at hc
          cases hc
      · have := run_endLoop (P := g.P) q3.recd (by simp)
        refine ⟨some o.code, _, this, ?_⟩
        cases o with
        | normal => exact absurd rfl q1
        | exit id => exact wpIn_exit ⟨rfl, hend q3⟩
        | ret => exact wpIn_ret ⟨rfl, hend q3⟩
end
end Go.Proofs.YtgbfedgghjcdcaaGreatDoor

/- The tree evaluator, 20: code; the evaluator's answer is the model's. Conditions: what 'Wf' asks of the program, the contracts of 'ext' and 'seq'. -/
namespace Go.Proofs.YtgbfedgghjcdcaaGreatDoor
set_option linter.unusedSimpArgs false
set_option linter.unusedVariables false
set_option linter.unusedSectionVars false
open Go.RowKit

section
variable {g : Cfg} {γ : Glob} {κ : Ctx} {C : CallF} {Lp : LoopF} {n : Nat}
theorem evC_ok (hmx : g.P.follows .mixedOrders = true) (hS : CallSnd g.P γ C) (hL : LoopSnd g γ Lp) (hQ : ∀ (gf : Nat) (xs : List AV) (yss : List (List AV)) (wh : Bool), g.seq gf xs = some (yss, wh) → ∀ (lb : Array Value), lb.size = xs.length → ISeq γ g.P gf lb (Cap xs lb) yss wh) {f : Nat} : ∀ (c : Code) (env : Env) (fr : Fr) (o : Out) (env' : Env) (fr' : Fr), evC g f C Lp c env fr = some (o, env', fr') → wfC g f n c = true → ∀ (κ : Ctx) (rd : Option Nat) (dn : Nat) (a : Act) (w : World), (rd = none ∨ noRF c = true) → At γ κ n env fr a w → c.wpIn (Fw rd) dn g.P (Post γ κ n o env' fr') a w := by
  intro c
  induction c with
  | skip => intro env fr o env' fr' h _ κ rd dn a w hrd hA; unfold evC at h; cases h; exact wpIn_skip ⟨rfl, hA⟩
  | exit id => intro env fr o env' fr' h _ κ rd dn a w hrd hA; unfold evC at h; cases h; exact wpIn_exit ⟨rfl, hA⟩
  | ret => intro env fr o env' fr' h _ κ rd dn a w hrd hA; unfold evC at h; cases h; exact wpIn_ret ⟨rfl, hA⟩
  | region id ops draw =>
    intro env fr o env' fr' h hwf κ rd dn a w hrd hA
    unfold evC at h
    unfold wfC at hwf
    rw [Bool.and_eq_true] at hwf
    obtain ⟨h1, h2, L, hC, hV⟩ := hA
    split at h
    · rename_i e r he
      cases h
      unfold evReg at he
      cases draw with
      | false =>
        simp only at he
        split at he
        · have := ops_text (rd := rd) (dn := dn) hS (ops := ops) (n := n) (κ := κ) (Q := Post γ κ n .normal env' fr') (env' := env') (fr' := fr') hwf.1 (fun L a w hd hn hC hV => ⟨rfl, hd, hn, L, hC, hV⟩) ops.toList 0 env fr L a w (fun o ho => ho) he h1 h2 hC hV
          exact wpIn_region_lit (l := ops.toList) (by simpa using this)
        · rename_i k _ _
          unfold evRegB at he
          split at he
          · cases he
          · rename_i e1 r1 hpre
            split at he
            · cases he
            · rename_i o l hl
              split at he
              · cases he
              · rename_i hg
                split at he
                · cases he
                · rename_i x r2 hB
                  have hmem : ∀ o' ∈ o :: l, o' ∈ ops.toList := fun o' ho' => List.mem_of_mem_drop (by rw [hl]; exact ho')
                  have key := ops_pre (rd := rd) (dn := dn) hS (ops := ops) (n := n) (κ := κ) (Q := Post γ κ n .normal env' fr') (env' := e1) (fr' := r1) (l2 := o :: l) hwf.1 (fun L a w hd hn hC hV => by
                    unfold wpListIn
                    rw [if_pos (by simp [Region.wanted, hg])]
                    refine (build_ok hB κ L a w hC (fun y _ => evE_ok hV y)).wpIn fun v w' ⟨L', hT, hC', hv⟩ => ?_
                    refine ops_text (rd := rd) (dn := dn) hS (ops := ops) (n := n) (κ := κ) (Q := Post γ κ n .normal env' fr') (env' := env') (fr' := fr') hwf.1 (fun L a w hd hn hC hV => ⟨rfl, hd, hn, L, hC, hV⟩) l (k + 1) _ _ L' _ _ (fun o' ho' => hmem o' (by simp [ho'])) he (by rw [put_defers]; exact hd.tr hC hT) (by rw [put_size, hn]) hC' ?_
                    exact put_rel (fun t => hT.env (hV t)) hv fun q hq => by rw [hn]; exact dst_lt hwf.1 (hmem o (by simp)) hq) (ops.toList.take k) 0 env fr L a w (fun o' ho' => List.mem_of_mem_take ho') hpre h1 h2 hC hV
                  rw [← hl, List.take_append_drop] at key
                  exact wpIn_region_lit (l := ops.toList) (by simpa using key)
      | true =>
        match hm : effK (g.eff f id) with
        | 0 =>
          have hwf2 := hwf.2
          simp only [hm] at he hwf2
          obtain ⟨E, F, a1, a2, a3, a4, a5⟩ := ops_trace ops.toList 0 env fr he
          have hE : Steps g C ops (g.eff f id) E F := fun i o ho => by
            have := a3 i o (by rw [Array.getElem?_toList]; exact ho)
            rwa [Nat.zero_add] at this
          rw [Array.length_toList] at a4 a5
          refine wpIn_region_any hmx (wpAny_mid (n := n) (κ := κ) (E := E) (F := F) hS (drawOk_spec hwf2) hwf.1 hE (fun L a w hd hn hC hV => ⟨rfl, hd, hn, L, by rw [← a5]; exact hC, by rw [← a5, ← a4]; exact hV⟩) _ 0 L _ a _ ?_ (Mid.start h1 h2 ?_ fun t => ?_))
          · unfold un'
            exact Nat.le_trans (List.countP_le_length) (by simp)
          · rw [a2]; exact hC.later (Below.drew (Below.refl _ _))
          · rw [a1, a2]; exact (hV t).later (Below.drew (Below.refl _ _))
        | 1 =>
          have hwf2 := hwf.2
          simp only [hm] at he hwf2
          obtain ⟨E, F, a1, a2, a3, a4, a5⟩ := opsF_trace ops.toList 0 env fr he
          have hE : StepsF g C ops (g.eff f id) E F := fun i o ho => by
            have := a3 i o (by rw [Array.getElem?_toList]; exact ho)
            rwa [Nat.zero_add] at this
          rw [Array.length_toList] at a4 a5
          refine wpIn_region_any hmx (wpAny_midF (n := n) (κ := κ) (E := E) (F := F) hS (drawOkF_spec hwf2) hwf.1 hE (fun L a w hd hn hC hV => ⟨rfl, hd, hn, L, by rw [← a5]; exact hC, by rw [← a5, ← a4]; exact hV⟩) _ 0 L _ a _ ?_ (MidF.start h1 h2 ?_ fun t => ?_))
          · unfold un'
            exact Nat.le_trans (List.countP_le_length) (by simp)
          · rw [a2]; exact hC.later (Below.drew (Below.refl _ _))
          · rw [a1, a2]; exact (hV t).later (Below.drew (Below.refl _ _))
        | n + 2 => simp only [hm] at he; cases he
    · cases h
  | seq x y ihx ihy =>
    intro env fr o env' fr' h hwf κ rd dn a w hrd hA
    unfold evC at h
    unfold wfC at hwf
    rw [Bool.and_eq_true] at hwf
    have hrd1 : rd = none ∨ noRF x = true := hrd.imp (fun q => q) fun q => by unfold noRF at q; rw [Bool.and_eq_true] at q; exact q.1
    have hrd2 : rd = none ∨ noRF y = true := hrd.imp (fun q => q) fun q => by unfold noRF at q; rw [Bool.and_eq_true] at q; exact q.2
    split at h
    · rename_i e r hx
      refine wpIn_seq (wpIn_mono (ihx _ _ _ _ _ hx hwf.1 κ rd dn a w hrd1 hA) fun ex a' w' ⟨he, hA'⟩ => ?_)
      subst he
      exact ihy _ _ _ _ _ h hwf.2 κ rd dn a' w' hrd2 hA'
    · rename_i hno
      refine wpIn_seq (wpIn_mono (ihx _ _ _ _ _ h hwf.1 κ rd dn a w hrd1 hA) fun ex a' w' ⟨he, hA'⟩ => ?_)
      subst he
      cases o with
      | normal => exact absurd h (hno _ _)
      | exit id => exact ⟨rfl, hA'⟩
      | ret => exact ⟨rfl, hA'⟩
  | cond c x y ihx ihy =>
    intro env fr o env' fr' h hwf κ rd dn a w hrd hA
    unfold evC at h
    unfold wfC at hwf
    rw [Bool.and_eq_true] at hwf
    have hA' := hA
    have hrd1 : rd = none ∨ noRF x = true := hrd.imp (fun q => q) fun q => by unfold noRF at q; rw [Bool.and_eq_true] at q; exact q.1
    have hrd2 : rd = none ∨ noRF y = true := hrd.imp (fun q => q) fun q => by unfold noRF at q; rw [Bool.and_eq_true] at q; exact q.2
    obtain ⟨_, _, L, hC, hV⟩ := hA'
    have hc := rd_ok (evE_ok hV c)
    split at h
    · rename_i hr
      rw [hr] at hc
      exact wpIn_cond_split (inv_bool hc) (fun _ => ihx _ _ _ _ _ h hwf.1 κ rd dn a w hrd1 hA) (fun e => by cases e)
    · rename_i hr
      rw [hr] at hc
      exact wpIn_cond_split (inv_bool hc) (fun e => by cases e) (fun _ => ihy _ _ _ _ _ h hwf.2 κ rd dn a w hrd2 hA)
    · cases h
  | block id b ih =>
    intro env fr o env' fr' h hwf κ rd dn a w hrd hA
    unfold evC at h
    unfold wfC at hwf
    split at h
    · rename_i i e r hx
      refine wpIn_block (wpIn_mono (ih _ _ _ _ _ hx hwf κ rd dn a w (hrd.imp (fun q => q) fun q => by unfold noRF at q; exact q) hA) fun ex a' w' ⟨he, hA'⟩ => ?_)
      subst he
      simp only [Out.toExit, Exit.inBlock]
      split at h
      · rename_i hi
        cases h
        rw [if_pos (by simpa using hi)]
        exact ⟨rfl, hA'⟩
      · rename_i hi
        cases h
        rw [if_neg (by intro e; subst e; simp at hi)]
        exact ⟨rfl, hA'⟩
    · rename_i hno
      refine wpIn_block (wpIn_mono (ih _ _ _ _ _ h hwf κ rd dn a w (hrd.imp (fun q => q) fun q => by unfold noRF at q; exact q) hA) fun ex a' w' ⟨he, hA'⟩ => ?_)
      subst he
      cases o with
      | normal => exact ⟨rfl, hA'⟩
      | exit i => exact absurd h (hno _ _ _)
      | ret => exact ⟨rfl, hA'⟩
  | loop b ih =>
    intro env fr o env' fr' h hwf κ rd dn a w hrd hA
    unfold evC at h
    unfold wfC at hwf
    have h1 := At.own (env := env) (fr := fr) (g.own f (blockId b)) env fr hA
    exact hL _ _ _ _ _ _ _ h n hwf κ rd dn a w (hrd.imp (fun q => q) fun q => by unfold noRF at q; exact q) (h1.head h1.handed)
  | rangeFunc op ps asg body iha ihb =>
    intro env fr o env' fr' h hwf κ rd dn a w hrd hA
    obtain rfl : rd = none := hrd.resolve_right (by unfold noRF; simp)
    unfold evC at h
    unfold wfC at hwf
    rw [Bool.and_eq_true, Bool.and_eq_true, Bool.and_eq_true, Bool.and_eq_true] at hwf
    obtain ⟨⟨⟨⟨w1, w2⟩, w3⟩, w4⟩, w5⟩ := hwf
    split at h
    · rename_i gf bs hcal
      split at h
      · cases h
      · rename_i cs hcs
        split at h
        · cases h
        · rename_i yss wh hsq
          obtain ⟨d1, d2, L, hC, hV⟩ := hA
          obtain ⟨fs, lb, hv, hal, hbl, har, hbr⟩ := calleeS_ok hcal (rd_ok (evE_ok hV op))
          obtain ⟨hC1, hT1, hM1⟩ := hC.frz (rchs fr bs)
          obtain ⟨p1, p2⟩ := toAVs_ok hC hM1 _ _ hcs (frz_free hC)
          have hfs : fs = #[] := Array.eq_empty_of_size_eq_zero (by rw [← hal]; rfl)
          subst hfs
          refine range_ok (fun env fr o env' fr' h κ l dn a w hA => iha _ _ _ _ _ h w1 κ (some l) dn a w (.inr w3) hA) (fun env fr o env' fr' h κ l dn a w hA => ihb _ _ _ _ _ h w2 κ (some l) dn a w (.inr w4) hA) (fun p hp => by simpa [Nat.blt_eq] using List.all_eq_true.1 w5 p hp) hv (hQ _ _ _ _ hsq lb (by rw [← hbl, p1])) (T := Cap cs lb) h (d1.tr hC hT1) d2 hC1 (fun t => hT1.sr (hV t)) fun x v ⟨j, hx, hu⟩ => ?_
          obtain ⟨s, hs⟩ := get_of_lt (xs := bs) (k := j) (by rw [p1]; exact lt_of_get hx)
          exact p2 j s x v hs hx (hbr j s v hs hu)
    · cases h
  | _ => intro env fr o env' fr' h; unfold evC at h; cases h
theorem loadS_ptr {P : Program} {A : Nat → Prop} {L : Ls} {w : World} {fr : Fr} {t : Nat} {s x : SV} {v : Value} (h : loadS P fr t s = some x) (hs : SR A L w s v) : ∃ a, v = .pointer (some a) := by
  unfold loadS at h
  split at h
  · cases h
  · split at h
    · obtain ⟨b, o, us, rfl, _⟩ := inv_tp hs; exact ⟨_, rfl⟩
    · obtain ⟨b, _, rfl⟩ := inv_lp hs; exact ⟨_, rfl⟩
    · obtain ⟨b, m, c, _, rfl⟩ := inv_le hs; exact ⟨_, rfl⟩
    · cases h
def resV (tmps : Array Value) : ResultVar → Sem Value
  | .tmp t => pure (tmps.getD t undef)
  | .cell a t => do loadVar t (← asAddr (tmps.getD a undef))
theorem results_v (fn : Func) (tmps : Array Value) : results fn tmps = (do let vs ← fn.results.mapM (resV tmps); pure (if h : vs.size = 1 then vs[0] else .tuple vs)) := by
  unfold results
  congr 2
theorem resV_run {P : Program} {γ : Glob} {κ : Ctx} {fr : Fr} {L : Ls} {w : World} {env : Env} {tmps : Array Value} (hC : Core γ κ fr L w) (hV : ∀ t, SR (MA κ.M fr L) L w (env t) (tmps.getD t undef)) {r : ResultVar} {q : Nat × Option Nat} {x : SV} (hq : resTmps [r] = [q]) (hx : outOne P env fr q = some x) : ∃ v, (resV tmps r).run P w = .ok v w ∧ SR (MA κ.M fr L) L w x v := by
  cases r with
  | tmp t => unfold resTmps resTmps at hq; cases hq; cases hx; exact ⟨_, rfl, hV t⟩
  | cell a T =>
    unfold resTmps resTmps at hq
    cases hq
    have hx : loadS P fr T (un (env a)) = some x := hx
    have ha := un_ok (hV a)
    obtain ⟨ad, hp⟩ := loadS_ptr hx ha
    obtain ⟨u, h1, h2⟩ := loadS_ok hC hx ha
    refine ⟨u, ?_, h2⟩
    rw [hp] at h1
    show ((asAddr (tmps.getD a undef)) >>= fun d => loadVar T d).run P w = _
    rw [hp]
    simpa [Instr.loadAt, Instr.sureAddr, asAddr, Sem.run_bind] using h1
theorem results_run {P : Program} {γ : Glob} {κ : Ctx} {fr : Fr} {L : Ls} {w : World} {env : Env} {fn : Func} {tmps : Array Value} {x : SV} (hC : Core γ κ fr L w) (hV : ∀ t, SR (MA κ.M fr L) L w (env t) (tmps.getD t undef)) (h : outOf P env fr (resTmps fn.results.toList) = some x) (hts : fn.results.size ≤ 4) :
    ∃ v, (results fn tmps).run P w = .ok v w ∧ SR (MA κ.M fr L) L w x v := by
  have key : ∀ (l : List ResultVar) (xs : List SV), outsOf P env fr (resTmps l) = some xs → ∃ vs : List Value, vs.length = l.length ∧ xs.length = l.length ∧ ∀ (j : Nat) (r : ResultVar) (x : SV) (v : Value), l[j]? = some r → xs[j]? = some x → vs[j]? = some v → (resV tmps r).run P w = .ok v w ∧ SR (MA κ.M fr L) L w x v := fun l => by
    induction l with
    | nil => intro xs h; unfold resTmps outsOf at h; cases h; exact ⟨[], rfl, rfl, fun j r x v hr => by simp at hr⟩
    | cons r l ih =>
      intro xs h
      have hc : ∃ q, resTmps [r] = [q] ∧ resTmps (r :: l) = q :: resTmps l := by cases r <;> exact ⟨_, rfl, rfl⟩
      obtain ⟨q, hq, hc⟩ := hc
      rw [hc] at h
      unfold outsOf at h
      split at h
      · cases h
      · rename_i x0 hx0
        split at h
        · cases h
        · rename_i xs' hxs
          cases h
          obtain ⟨v0, e1, e2⟩ := resV_run hC hV hq hx0
          obtain ⟨vs, f1, f2, f3⟩ := ih _ hxs
          refine ⟨v0 :: vs, by simp [f1], by simp [f2], fun j r' x v hr hx hv => ?_⟩
          cases j with
          | zero => cases hr; cases hx; cases hv; exact ⟨e1, e2⟩
          | succ j => exact f3 j r' x v hr hx hv
  unfold outOf at h
  have hsz : fn.results.toList.length ≤ 4 := by simpa using hts
  have hra : fn.results = fn.results.toList.toArray := by simp
  rw [results_v]
  generalize fn.results.toList = l at *
  rw [hra]
  have tup : ∀ (xs : List SV) (vs : List Value), vs.length = xs.length → (∀ (j : Nat) (x : SV) (v : Value), xs[j]? = some x → vs[j]? = some v → SR (MA κ.M fr L) L w x v) → SR (MA κ.M fr L) L w (.tup xs) (.tuple vs.toArray) := fun xs vs hl hr => .tup _ _ (by simpa using hl) fun j x u hx hu => hr j x u hx (by simpa using hu)
  split at h
  · cases h
  · rename_i x0 hx
    cases h
    obtain ⟨vs, f1, f2, f3⟩ := key l _ hx
    match l, vs, f1, f2, f3 with
    | [r], [v], _, _, f3 =>
      obtain ⟨g1, g2⟩ := f3 0 r x v rfl rfl rfl
      exact ⟨v, by simp [Sem.run_bind, g1], g2⟩
  · rename_i xs hx1 hx
    cases h
    obtain ⟨vs, f1, f2, f3⟩ := key l _ hx
    match l, vs, xs, f1, f2, f3, hsz with
    | [], [], [], _, _, _, _ => exact ⟨.tuple #[], by simp [Sem.run_bind], tup [] [] rfl fun j x v hx => by simp at hx⟩
    | [r], [v], [x], _, _, f3, _ => exact absurd rfl (hx1 x)
    | [r0, r1], [v0, v1], [x0, x1], _, _, f3, _ =>
      have a0 := f3 0 r0 x0 v0 rfl rfl rfl
      have a1 := f3 1 r1 x1 v1 rfl rfl rfl
      exact ⟨.tuple #[v0, v1], by simp [Sem.run_bind, a0.1, a1.1], tup [x0, x1] [v0, v1] rfl fun j x v hx hv => by
        match j, hx, hv with
        | 0, hx, hv => cases hx; cases hv; exact a0.2
        | 1, hx, hv => cases hx; cases hv; exact a1.2⟩
    | [r0, r1, r2], [v0, v1, v2], [x0, x1, x2], _, _, f3, _ =>
      have a0 := f3 0 r0 x0 v0 rfl rfl rfl
      have a1 := f3 1 r1 x1 v1 rfl rfl rfl
      have a2 := f3 2 r2 x2 v2 rfl rfl rfl
      exact ⟨.tuple #[v0, v1, v2], by simp [Sem.run_bind, a0.1, a1.1, a2.1], tup [x0, x1, x2] [v0, v1, v2] rfl fun j x v hx hv => by
        match j, hx, hv with
        | 0, hx, hv => cases hx; cases hv; exact a0.2
        | 1, hx, hv => cases hx; cases hv; exact a1.2
        | 2, hx, hv => cases hx; cases hv; exact a2.2⟩
    | [r0, r1, r2, r3], [v0, v1, v2, v3], [x0, x1, x2, x3], _, _, f3, _ =>
      have a0 := f3 0 r0 x0 v0 rfl rfl rfl
      have a1 := f3 1 r1 x1 v1 rfl rfl rfl
      have a2 := f3 2 r2 x2 v2 rfl rfl rfl
      have a3 := f3 3 r3 x3 v3 rfl rfl rfl
      exact ⟨.tuple #[v0, v1, v2, v3], by simp [Sem.run_bind, a0.1, a1.1, a2.1, a3.1], tup [x0, x1, x2, x3] [v0, v1, v2, v3] rfl fun j x v hx hv => by
        match j, hx, hv with
        | 0, hx, hv => cases hx; cases hv; exact a0.2
        | 1, hx, hv => cases hx; cases hv; exact a1.2
        | 2, hx, hv => cases hx; cases hv; exact a2.2
        | 3, hx, hv => cases hx; cases hv; exact a3.2⟩
theorem call_step (hW : Wf g γ) {m : Nat} (hS : CallSnd g.P γ (callN g m)) (hL : LoopSnd g γ (loopN g m)) : CallSnd g.P γ (callN g (m + 1)) := fun f args fr r fr' h => by
  unfold callN at h
  split at h
  · -- a contract
    split at h
    · rename_i xs hxs
      obtain ⟨hk, hc⟩ := hW.ext f xs r fr' h
      refine ⟨hk, fun κ w us hC hw hus hr => ?_⟩
      obtain ⟨p1, p2⟩ := pursN_ok (A := MA κ.M [] κ.L) (L := κ.L) (w := w) hxs
      exact hc κ w us hC hw (by rw [hus, p1]) fun j x u hx hu => by
        obtain ⟨s, hs⟩ := get_of_lt (xs := args) (k := j) (by rw [p1]; exact lt_of_get hx)
        exact p2 j s x u hs hx (hr j s u hs hu)
    · cases h
  · rename_i hok
    split at h
    · cases h
    · rename_i fn hfn
      split at h
      · rename_i c hb
        have hwf := hW.fns f hok
        unfold wfF at hwf
        rw [hfn] at hwf
        simp only [hb] at hwf
        rw [Bool.and_eq_true, Bool.and_eq_true, Bool.not_eq_true', Nat.ble_eq] at hwf
        obtain ⟨⟨hwc, hnm⟩, hrs⟩ := hwf
        split at h
        · cases h
        · rename_i hal
          rw [Nat.ble_eq] at hal
          refine ⟨⟨fn, hfn, hnm, by rw [hb]; rfl⟩, fun κ w us hC hw hus hr => callsIn_wide.1 (callsIn_of_wp_marks (F := Fence.wide) (n := 0) hfn hb trivial ?_)⟩
          have hA : At γ κ fn.ntmps (ofArgs args) fr { tmps := us ++ Array.replicate (fn.ntmps - us.size) undef, defers := [] } w := by
            refine ⟨Marks.nil, by simp [hus]; omega, κ.L, hC, fun t => ?_⟩
            show SR _ _ w (ofArgs args t) _
            unfold ofArgs
            cases hx : args[t]? with
            | none => exact .dead _
            | some x =>
              have ht : t < us.size := by rw [hus]; exact lt_of_get hx
              have h1 := hr t x us[t] hx (Array.getElem?_eq_getElem ht)
              show SR _ _ w x ((us ++ _).getD t undef)
              rw [Array.getD_eq_getD_getElem?, Array.getElem?_append_left ht, Array.getElem?_eq_getElem ht]
              exact h1
          have done : ∀ {o : Out} {e : Env} {q : Fr}, evC g f (callN g m) (loopN g m) c (ofArgs args) fr = some (o, e, q) → (o = .normal ∨ o = .ret) → finO fr.length (outOf g.P e q (resTmps fn.results.toList)) q = some (r, fr') → Code.wpIn Fence.wide 0 g.P c (bodyPostM Fence.wide 0 g.P fn fun e w' => ∃ v L', e = .returned v ∧ Core γ κ fr' L' w' ∧ SR (MA κ.M fr' L') L' w' r v) { tmps := us ++ Array.replicate (fn.ntmps - us.size) undef, defers := [] } w := fun {o e q} hev ho hfin => by
            refine wpIn_mono (evC_ok hW.mixed hS hL hW.seq c _ _ _ _ _ hev hwc κ none 0 _ w (.inl rfl) hA) fun ex a w' ⟨he, ⟨Ds, n1, n2, n3⟩, h3, L, h4, h5⟩ => ?_
            unfold finO at hfin
            split at hfin
            · rename_i r0 hr0
              have key : LeavesInM Fence.wide 0 g.P fn a.tmps (fun e w' => ∃ v L', e = .returned v ∧ Core γ κ fr' L' w' ∧ SR (MA κ.M fr' L') L' w' r v) a.defers .returning w' := by
                rw [n2]
                refine leaves_marks Ds w' n1 n3 fun w'' hq => ?_
                obtain ⟨v, hv, hsr⟩ := results_run (h4.lq hq) (fun t => (h5 t).lq hq) hr0 hrs
                obtain ⟨L', f1, f2⟩ := fin_ok (h4.lq hq) (fun j u hj => hC.lim j u hj) hfin hsr
                exact ⟨v, hv, v, L', rfl, f1, f2⟩
              rcases ho with rfl | rfl <;> (subst he; exact key)
            · cases hfin
          split at h
          · rename_i e q hev; exact done hev (.inl rfl) h
          · rename_i e q hev; exact done hev (.inr rfl) h
          · cases h
      · cases h
theorem wpIn_loop_ghost {F : Fence} {dn : Nat} {P : Program} {Q : Exit → Act → World → Prop} {a : Act} {w : World} {c : Code} (I : Nat → Act → World → Prop) (n₀ : Nat) (h₀ : I n₀ a w)
    (round : ∀ n a w, I n a w → c.wpIn F dn P (Exit.then (fun a' w' => ∃ n', n' < n ∧ I n' a' w') Q) a w) : (Code.loop c).wpIn F dn P Q a w := by
  refine wpIn_loop (fun a w => ∃ n, I n a w) (fun a w => leastOf (fun n => I n a w)) ⟨n₀, h₀⟩ ?_
  intro a w hI
  refine wpIn_mono (round _ a w (leastOf_spec hI).1) ?_
  intro e a' w' hq
  cases e with
  | normal =>
    obtain ⟨n', hlt, hI'⟩ := hq
    exact show (∃ n, I n a' w') ∧ leastOf (fun n => I n a' w') < leastOf (fun n => I n a w) from ⟨⟨n', hI'⟩, Nat.lt_of_le_of_lt ((leastOf_spec ⟨n', hI'⟩).2 n' hI') hlt⟩
  | exit id => exact hq
  | goto l => exact hq
  | ret => exact hq
  | panic ch => exact hq
  | outgrown => exact hq
theorem loop_step (hW : Wf g γ) {m : Nat} (hS : ∀ k, k < m → CallSnd g.P γ (callN g k)) (hL : ∀ k, k < m → LoopSnd g γ (loopN g k)) : LoopSnd g γ (loopN g m) := fun f b env fr o env' fr' h n hwf κ rd dn a w hrd hA => by
  refine wpIn_loop_ghost (fun k a w => k ≤ m ∧ ∃ env fr, loopN g k f b env fr = some (o, env', fr') ∧ At γ κ n env fr a w) m ⟨Nat.le_refl _, env, fr, h, hA⟩ fun k a w ⟨hk, env, fr, h, hA⟩ => ?_
  cases k with
  | zero => unfold loopN at h; cases h
  | succ k =>
    unfold loopN at h
    split at h
    · rename_i e r hev
      refine wpIn_mono (evC_ok hW.mixed (hS k (by omega)) (hL k (by omega)) hW.seq b _ _ _ _ _ hev hwf κ rd dn a w hrd hA) fun ex a' w' ⟨he, hA'⟩ => ?_
      subst he
      exact ⟨k, Nat.lt_succ_self k, by omega, _, _, h, hA'.head hA.handed⟩
    · rename_i hno
      refine wpIn_mono (evC_ok hW.mixed (hS k (by omega)) (hL k (by omega)) hW.seq b _ _ _ _ _ h hwf κ rd dn a w hrd hA) fun ex a' w' ⟨he, hA'⟩ => ?_
      subst he
      cases o with
      | normal => exact absurd h (hno _ _)
      | exit id => exact ⟨rfl, hA'⟩
      | ret => exact ⟨rfl, hA'⟩
/-- THE EVALUATOR's ANSWER IS THE MODEL's. -/
theorem sound (hW : Wf g γ) : ∀ m, CallSnd g.P γ (callN g m) ∧ LoopSnd g γ (loopN g m) := fun m => by
  induction m using Nat.strongRecOn with
  | _ m ih =>
    have hl := loop_step hW (fun k hk => (ih k hk).1) (fun k hk => (ih k hk).2)
    cases m with
    | zero => exact ⟨(fun f args fr r fr' h => by unfold callN at h; cases h), hl⟩
    | succ m => exact ⟨call_step hW (ih m (Nat.lt_succ_self m)).1 (ih m (Nat.lt_succ_self m)).2, hl⟩
end
end Go.Proofs.YtgbfedgghjcdcaaGreatDoor

/- The tree evaluator, 20c: walks of iterators: the operations ahead of a call of yield; that call. No condition. -/
namespace Go.Proofs.YtgbfedgghjcdcaaGreatDoor
set_option linter.unusedSimpArgs false
set_option linter.unusedVariables false
set_option linter.unusedSectionVars false
open Go.RowKit

/-- A call of yield. -/
theorem yield_op {P : Program} {o : Oper} {c : Operand} {args : Array Operand} {tys : Array TypeId} {a : Act} {w : World} {l m : Nat} {R : Ending → World → Prop} {K : Act → World → Prop} {Q : Exit → Act → World → Prop}
    (ho : o.op = .call ⟨.value c, args, tys⟩) (hc : a.eval c = .func (.yield l) #[] #[]) (hy : ∀ m, YieldAt (Fw none) m P l (args.map a.eval) w R) (hK : ∀ e w', R e w' → ∃ v, e = .returned v ∧ K (a.put o.dst v) w') : o.wpIn (Fw none) m P a w K Q := by
  refine ⟨fun _ _ => trivial, ?_⟩
  obtain ⟨fn, tmps, asg, body, h1, h2⟩ := hy (m - 1)
  have e : (o.semAt (Fw none).round a.eval).run P w = .ok (.round l fn tmps asg body) w := by
    show (o.semAt none a.eval).run P w = _
    simp [Oper.semAt, execOp, ho, resolve, Deferred.ofValue, hc, invoke, Sem.run_bind, pure, Sem.run, callFunc, h1]
  rw [e]
  refine ⟨(fun h => by cases h), h2.mono ?_⟩
  intro en w' hr
  obtain ⟨v, rfl, hk⟩ := hK en w' hr
  exact hk
end Go.Proofs.YtgbfedgghjcdcaaGreatDoor

/- The tree evaluator, 21: more fuel does no harm; rules for walking through code. No condition. -/
namespace Go.Proofs.YtgbfedgghjcdcaaGreatDoor
set_option linter.unusedSimpArgs false
set_option linter.unusedVariables false
set_option linter.unusedSectionVars false
open Go.RowKit

/-- C' answers wherever C does, and the same. -/
def CLe (C C' : CallF) : Prop := ∀ f args fr x, C f args fr = some x → C' f args fr = some x
def LLe (Lp Lp' : LoopF) : Prop := ∀ f b env fr x, Lp f b env fr = some x → Lp' f b env fr = some x
section
variable {g : Cfg} {C C' : CallF} {Lp Lp' : LoopF}
theorem callS_mono (h : CLe C C') {dr : Bool} {fr : Fr} {f : Nat} {args : List SV} {x : Res} (hx : callS g C dr fr f args = some x) : callS g C' dr fr f args = some x := by
  unfold callS at hx ⊢
  split at hx
  · cases hx
  · rename_i xs hxs
    try simp only [hxs]
    split at hx
    · rename_i hh
      try simp only [hh]
      split at hx
      · cases hx
      · rename_i r ex hc
        rw [h _ _ _ _ hc]
        exact hx
    · rename_i h0 ht hh
      try simp only [hh]
      split at hx
      · cases hx
      · simp only at hx ⊢
        split at hx
        · cases hx
        · rename_i bs hbs
          try simp only [hbs]
          split at hx
          · cases hx
          · rename_i hcl
            try simp only [hcl]
            split at hx
            · cases hx
            · rename_i r fr' hc
              rw [h _ _ _ _ hc]
              exact hx
theorem evW_mono (h : CLe C C') {dr : Bool} {env : Env} {fr : Fr} {op : Op} {x : Res} (hx : evW g C dr env fr op = some x) : evW g C' dr env fr op = some x := by
  unfold evW at hx ⊢
  split at hx <;> first | exact hx | skip
  · unfold callE at hx ⊢
    split at hx
    · cases hx
    · rename_i hc
      try simp only [hc]
      exact callS_mono h hx
theorem step_mono (h : CLe C C') {d : Option (List Nat)} {i : Nat} {env : Env} {fr : Fr} {op : Op} {x : Res} (hx : step g C d i env fr op = some x) : step g C' d i env fr op = some x := by
  have hT : ∀ {x}, evT g C env fr op = some x → evT g C' env fr op = some x := fun {x} hx => by
    unfold evT at hx ⊢
    split at hx
    · exact evW_mono h hx
    · exact hx
  have hD : ∀ {x}, evD g C env fr op = some x → evD g C' env fr op = some x := fun {x} hx => by
    unfold evD at hx ⊢
    split at hx
    · exact evW_mono h hx
    · exact hx
  unfold step at hx ⊢
  split at hx
  · exact hT hx
  · split at hx
    · exact hT hx
    · exact hD hx
theorem evOps_mono (h : CLe C C') {d : Option (List Nat)} {ops : Array Oper} {x : Env × Fr} : ∀ (l : List Oper) (i : Nat) (env : Env) (fr : Fr), evOps g C d ops i l env fr = some x → evOps g C' d ops i l env fr = some x
  | [], _, _, _, hx => hx
  | o :: l, i, env, fr, hx => by
    unfold evOps at hx ⊢
    split at hx
    · split at hx
      · rename_i hst
        rw [step_mono h hst]
        exact evOps_mono h l _ _ _ hx
      · cases hx
    · split at hx
      · cases hx
      · rename_i hW
        try simp only [hW]
        split at hx
        · rename_i hst
          rw [step_mono h hst]
          exact evOps_mono h l _ _ _ hx
        · cases hx
      · rename_i hW
        try simp only [hW]
        exact evOps_mono h l _ _ _ hx
theorem evOpsF_mono (h : CLe C C') {effs : List Nat} {ops : Array Oper} {x : Env × Fr} : ∀ (l : List Oper) (i : Nat) (env : Env) (fr : Fr), evOpsF g C effs ops i l env fr = some x → evOpsF g C' effs ops i l env fr = some x
  | [], _, _, _, hx => hx
  | o :: l, i, env, fr, hx => by
    unfold evOpsF at hx ⊢
    split at hx
    · cases hx
    · rename_i hfl
      try simp only [hfl]
      split at hx
      · split at hx
        · rename_i hst
          rw [step_mono h hst]
          exact evOpsF_mono h l _ _ _ hx
        · cases hx
      · split at hx
        · cases hx
        · rename_i hW
          try simp only [hW]
          split at hx
          · rename_i hst
            rw [step_mono h hst]
            exact evOpsF_mono h l _ _ _ hx
          · cases hx
        · rename_i hW
          try simp only [hW]
          exact evOpsF_mono h l _ _ _ hx
theorem evRegB_mono (h : CLe C C') {k : Nat} {ops : Array Oper} {env : Env} {fr : Fr} {x : Env × Fr} (hx : evRegB g C k ops env fr = some x) : evRegB g C' k ops env fr = some x := by
  unfold evRegB at hx ⊢
  split at hx
  · cases hx
  · rename_i hp
    try simp only [evOps_mono h _ _ _ _ hp]
    split at hx
    · cases hx
    · rename_i hl
      try simp only [hl]
      split at hx
      · cases hx
      · rename_i hg
        try simp only [hg]
        split at hx
        · cases hx
        · rename_i hB
          try simp only [hB]
          exact evOps_mono h _ _ _ _ hx
theorem evReg_mono (h : CLe C C') {f id : Nat} {ops : Array Oper} {draw : Bool} {env : Env} {fr : Fr} {x : Env × Fr} (hx : evReg g f C id ops draw env fr = some x) : evReg g f C' id ops draw env fr = some x := by
  unfold evReg at hx ⊢
  cases draw with
  | false =>
    simp only at hx ⊢
    split at hx
    · rename_i hm
      try simp only [hm]
      exact evOps_mono h _ _ _ _ hx
    · rename_i hm
      try simp only [hm]
      exact evRegB_mono h hx
  | true =>
    simp only at hx ⊢
    split at hx
    · rename_i hm
      try simp only [hm]
      exact evOps_mono h _ _ _ _ hx
    · rename_i hm
      try simp only [hm]
      exact evOpsF_mono h _ _ _ _ hx
    · cases hx
theorem roundE_mono {lv : Option (List Nat)} {A B A' B' : Env → Fr → Option (Out × Env × Fr)} (hA : ∀ e r x, A e r = some x → A' e r = some x) (hB : ∀ e r x, B e r = some x → B' e r = some x) {ps : List Nat} {y : List AV} {env : Env} {fr : Fr} {x : Out × Env × Fr} (h : roundE lv A B ps y env fr = some x) : roundE lv A' B' ps y env fr = some x := by
  unfold roundE at h ⊢
  split at h
  · cases h
  rename_i h1
  try simp only [h1]
  split at h
  · cases h
  rename_i h2
  try simp only [h2]
  split at h
  · rename_i h3
    rw [hA _ _ _ h3]
    simp only
    split at h
    · cases h
    · rename_i h4
      rw [hB _ _ _ h4]
      exact h
  · cases h
theorem roundsE_mono {lv : Option (List Nat)} {A B A' B' : Env → Fr → Option (Out × Env × Fr)} (hA : ∀ e r x, A e r = some x → A' e r = some x) (hB : ∀ e r x, B e r = some x → B' e r = some x) {ps : List Nat} {wh : Bool} : ∀ (yss : List (List AV)) (env : Env) (fr : Fr) (x : Out × Env × Fr), roundsE lv A B ps wh yss env fr = some x → roundsE lv A' B' ps wh yss env fr = some x
  | [], env, fr, x, h => h
  | y :: ys, env, fr, x, h => by
    unfold roundsE at h ⊢
    split at h
    · rename_i h1
      rw [roundE_mono hA hB h1]
      exact roundsE_mono hA hB ys _ _ _ h
    · rename_i hno
      rw [roundE_mono hA hB h]
      obtain ⟨o, e, r⟩ := x
      cases o with
      | normal => exact absurd h (hno _ _)
      | exit id => rfl
      | ret => rfl
theorem evC_mono (h : CLe C C') (hL : LLe Lp Lp') {f : Nat} : ∀ (c : Code) (env : Env) (fr : Fr) (x : Out × Env × Fr), evC g f C Lp c env fr = some x → evC g f C' Lp' c env fr = some x := by
  intro c
  induction c with
  | region id ops draw =>
    intro env fr x hx
    unfold evC at hx ⊢
    split at hx
    · rename_i e r he
      rw [evReg_mono h he]
      exact hx
    · cases hx
  | seq a b iha ihb =>
    intro env fr x hx
    unfold evC at hx ⊢
    split at hx
    · rename_i e r ha
      rw [iha _ _ _ ha]
      exact ihb _ _ _ hx
    · rename_i hno
      rw [iha _ _ _ hx]
      obtain ⟨o, e, r⟩ := x
      cases o with
      | normal => exact absurd hx (hno _ _)
      | exit id => rfl
      | ret => rfl
  | cond c a b iha ihb =>
    intro env fr x hx
    unfold evC at hx ⊢
    split at hx
    · exact iha _ _ _ hx
    · exact ihb _ _ _ hx
    · cases hx
  | block id b ih =>
    intro env fr x hx
    unfold evC at hx ⊢
    split at hx
    · rename_i i e r hb
      rw [ih _ _ _ hb]
      exact hx
    · rename_i hno
      rw [ih _ _ _ hx]
      obtain ⟨o, e, r⟩ := x
      cases o with
      | normal => rfl
      | exit id => exact absurd hx (hno _ _ _)
      | ret => rfl
  | loop b ih => intro env fr x hx; unfold evC at hx ⊢; exact hL _ _ _ _ _ hx
  | rangeFunc op ps asg body iha ihb =>
    intro env fr x hx
    unfold evC at hx ⊢
    split at hx
    · rename_i h1
      try simp only [h1]
      split at hx
      · cases hx
      · rename_i h2
        try simp only [h2]
        split at hx
        · cases hx
        · rename_i h3
          try simp only [h3]
          exact roundsE_mono (fun e r x q => iha e r x q) (fun e r x q => ihb e r x q) _ _ _ _ hx
    · cases hx
  | _ => intro env fr x hx; unfold evC at hx ⊢; exact hx
theorem mono_succ : ∀ n, CLe (callN g n) (callN g (n + 1)) ∧ LLe (loopN g n) (loopN g (n + 1))
  | 0 => ⟨(fun f args fr x h => by unfold callN at h; cases h), (fun f b env fr x h => by unfold loopN at h; cases h)⟩
  | n + 1 => by
    obtain ⟨h1, h2⟩ := mono_succ n
    refine ⟨fun f args fr x h => ?_, fun f b env fr x h => ?_⟩
    · unfold callN at h ⊢
      split at h
      · exact h
      · split at h
        · cases h
        · rename_i hfn
          try simp only [hfn]
          split at h
          · rename_i hb
            try simp only [hb]
            split at h
            · cases h
            · rename_i hal
              try simp only [hal]
              split at h
              · rename_i hev; rw [evC_mono h1 h2 _ _ _ _ hev]; exact h
              · rename_i hev; rw [evC_mono h1 h2 _ _ _ _ hev]; exact h
              · cases h
          · cases h
    · unfold loopN at h ⊢
      split at h
      · rename_i hev
        rw [evC_mono h1 h2 _ _ _ _ hev]
        exact h2 _ _ _ _ _ h
      · rename_i hno
        rw [evC_mono h1 h2 _ _ _ _ h]
        obtain ⟨o, e, r⟩ := x
        cases o with
        | normal => exact absurd h (hno _ _)
        | exit id => rfl
        | ret => rfl
theorem callN_mono {n m : Nat} (h : n ≤ m) : CLe (callN g n) (callN g m) := by
  induction m with
  | zero => obtain rfl : n = 0 := by omega
            exact fun _ _ _ _ h => h
  | succ m ih =>
    rcases Nat.lt_or_ge m n with h1 | h1
    · obtain rfl : n = m + 1 := by omega
      exact fun _ _ _ _ h => h
    · exact fun f args fr x hx => (mono_succ m).1 _ _ _ _ (ih h1 _ _ _ _ hx)
theorem loopN_mono {n m : Nat} (h : n ≤ m) : LLe (loopN g n) (loopN g m) := by
  induction m with
  | zero => obtain rfl : n = 0 := by omega
            exact fun _ _ _ _ _ h => h
  | succ m ih =>
    rcases Nat.lt_or_ge m n with h1 | h1
    · obtain rfl : n = m + 1 := by omega
      exact fun _ _ _ _ _ h => h
    · exact fun f b env fr x hx => (mono_succ m).2 _ _ _ _ _ (ih h1 _ _ _ _ _ hx)
end

/-- The function, called with these arguments and blocks handed over, answers so. -/
def Cl (g : Cfg) (f : Nat) (args : List SV) (fr : Fr) (r : SV) (fr' : Fr) : Prop := ∃ n, callN g n f args fr = some (r, fr')
/-- The code comes to an end of which K holds. -/
def EvK (g : Cfg) (f : Nat) (c : Code) (env : Env) (fr : Fr) (K : Out → Env → Fr → Prop) : Prop := ∃ n o e r, evC g f (callN g n) (loopN g n) c env fr = some (o, e, r) ∧ K o e r
def EvL (g : Cfg) (f : Nat) (b : Code) (env : Env) (fr : Fr) (K : Out → Env → Fr → Prop) : Prop := ∃ n o e r, loopN g n f b env fr = some (o, e, r) ∧ K o e r
def EvO (g : Cfg) (d : Option (List Nat)) (ops : Array Oper) (i : Nat) (l : List Oper) (env : Env) (fr : Fr) (K : Env → Fr → Prop) : Prop := ∃ n e r, evOps g (callN g n) d ops i l env fr = some (e, r) ∧ K e r
def EvOF (g : Cfg) (effs : List Nat) (ops : Array Oper) (i : Nat) (l : List Oper) (env : Env) (fr : Fr) (K : Env → Fr → Prop) : Prop := ∃ n e r, evOpsF g (callN g n) effs ops i l env fr = some (e, r) ∧ K e r
def OpR (g : Cfg) (d : Option (List Nat)) (i : Nat) (env : Env) (fr : Fr) (op : Op) (x : SV) (fr' : Fr) (ks : List Nat) : Prop := ∃ n, step g (callN g n) d i env fr op = some (x, fr', ks)
def thenK (P : Env → Fr → Prop) (K : Out → Env → Fr → Prop) : Out → Env → Fr → Prop
  | .normal, e, r => P e r
  | o, e, r => K o e r
def blockK (id : Nat) (K : Out → Env → Fr → Prop) : Out → Env → Fr → Prop
  | .exit i, e, r => match Nat.beq i id with
    | true => K .normal e r
    | false => K (.exit i) e r
  | o, e, r => K o e r
section
variable {g : Cfg} {f : Nat} {env : Env} {fr : Fr} {K : Out → Env → Fr → Prop}
theorem EvK.post {c : Code} {K' : Out → Env → Fr → Prop} (h : EvK g f c env fr K) (hK : ∀ o e r, K o e r → K' o e r) : EvK g f c env fr K' := by
  obtain ⟨n, o, e, r, h1, h2⟩ := h
  exact ⟨n, o, e, r, h1, hK _ _ _ h2⟩
theorem EvK.skip (h : K .normal env fr) : EvK g f .skip env fr K := ⟨0, .normal, env, fr, by unfold evC; rfl, h⟩
theorem EvK.exit {id : Nat} (h : K (.exit id) env fr) : EvK g f (.exit id) env fr K := ⟨0, .exit id, env, fr, by unfold evC; rfl, h⟩
theorem EvK.ret (h : K .ret env fr) : EvK g f .ret env fr K := ⟨0, .ret, env, fr, by unfold evC; rfl, h⟩
theorem EvK.seq {a b : Code} (h : EvK g f a env fr (thenK (fun e r => EvK g f b e r K) K)) : EvK g f (.seq a b) env fr K := by
  obtain ⟨n, o, e, r, h1, h2⟩ := h
  cases o with
  | normal =>
    obtain ⟨m, o, e', r', h3, h4⟩ := h2
    refine ⟨max n m, o, e', r', ?_, h4⟩
    unfold evC
    rw [evC_mono (callN_mono (Nat.le_max_left n m)) (loopN_mono (Nat.le_max_left n m)) _ _ _ _ h1]
    exact evC_mono (callN_mono (Nat.le_max_right n m)) (loopN_mono (Nat.le_max_right n m)) _ _ _ _ h3
  | exit id => exact ⟨n, _, e, r, by unfold evC; rw [h1], h2⟩
  | ret => exact ⟨n, _, e, r, by unfold evC; rw [h1], h2⟩
theorem EvK.cond {c : Operand} {a b : Code} {t : Bool} (hc : rd env c = .t (.bool t)) (ha : t = true → EvK g f a env fr K) (hb : t = false → EvK g f b env fr K) : EvK g f (.cond c a b) env fr K := by
  cases t with
  | true => obtain ⟨n, o, e, r, h1, h2⟩ := ha rfl; exact ⟨n, o, e, r, by unfold evC; rw [hc]; exact h1, h2⟩
  | false => obtain ⟨n, o, e, r, h1, h2⟩ := hb rfl; exact ⟨n, o, e, r, by unfold evC; rw [hc]; exact h1, h2⟩
theorem EvK.block {id : Nat} {b : Code} (h : EvK g f b env fr (blockK id K)) : EvK g f (.block id b) env fr K := by
  obtain ⟨n, o, e, r, h1, h2⟩ := h
  cases o with
  | normal => exact ⟨n, _, e, r, by unfold evC; rw [h1], h2⟩
  | ret => exact ⟨n, _, e, r, by unfold evC; rw [h1], h2⟩
  | exit i =>
    unfold blockK at h2
    simp only at h2
    split at h2
    · rename_i hi; exact ⟨n, .normal, e, r, by unfold evC; rw [h1]; simp only [hi], h2⟩
    · rename_i hi; exact ⟨n, .exit i, e, r, by unfold evC; rw [h1]; simp only [hi], h2⟩
theorem EvK.text {id : Nat} {l : List Oper} (hm : g.eff f id = []) (h : EvO g none l.toArray 0 l env fr fun e r => K .normal e r) : EvK g f (.region id l.toArray false) env fr K := by
  obtain ⟨n, e, r, h1, h2⟩ := h
  exact ⟨n, .normal, e, r, by unfold evC evReg; simp only [hm]; rw [h1], h2⟩
theorem EvK.drawn {id : Nat} {l : List Oper} (hm : effK (g.eff f id) = 0) (h : EvO g (some (g.eff f id)) l.toArray 0 l env fr fun e r => K .normal e r) : EvK g f (.region id l.toArray true) env fr K := by
  obtain ⟨n, e, r, h1, h2⟩ := h
  exact ⟨n, .normal, e, r, by unfold evC evReg; simp only [hm]; rw [h1], h2⟩
theorem EvK.drawnF {id : Nat} {l : List Oper} (hm : effK (g.eff f id) = 1) (h : EvOF g (g.eff f id) l.toArray 0 l env fr fun e r => K .normal e r) : EvK g f (.region id l.toArray true) env fr K := by
  obtain ⟨n, e, r, h1, h2⟩ := h
  exact ⟨n, .normal, e, r, by unfold evC evReg; simp only [hm]; rw [h1], h2⟩
theorem EvK.loop {b : Code} {p : Env × Fr} (hp : ownE (g.own f (blockId b)) env fr = p) {q : Env × Fr} (hq : head (g.lv f (blockId b)) p.2.length p.1 p.2 = q) (h : EvL g f b q.1 q.2 K) : EvK g f (.loop b) env fr K := by
  subst hp hq
  obtain ⟨n, o, e, r, h1, h2⟩ := h
  exact ⟨n, o, e, r, by unfold evC; exact h1, h2⟩
theorem EvL.step {b : Code} (h : EvK g f b env fr (thenK (fun e r => EvL g f b (head (g.lv f (blockId b)) fr.length e r).1 (head (g.lv f (blockId b)) fr.length e r).2 K) K)) : EvL g f b env fr K := by
  obtain ⟨n, o, e, r, h1, h2⟩ := h
  cases o with
  | normal =>
    obtain ⟨m, o, e', r', h3, h4⟩ := h2
    refine ⟨max n m + 1, o, e', r', ?_, h4⟩
    unfold loopN
    rw [evC_mono (callN_mono (Nat.le_max_left n m)) (loopN_mono (Nat.le_max_left n m)) _ _ _ _ h1]
    exact loopN_mono (Nat.le_max_right n m) _ _ _ _ _ h3
  | exit id => exact ⟨n + 1, _, e, r, by unfold loopN; rw [h1], h2⟩
  | ret => exact ⟨n + 1, _, e, r, by unfold loopN; rw [h1], h2⟩
theorem Cl.of_body {args : List SV} {r : SV} {fr' : Fr} {fn : Func} {c : Code} {ts : List (Nat × Option Nat)} (hok : g.ok f = true) (hf : g.P.funcs[f]? = some fn) (hb : fn.body = some c) (hts : resTmps fn.results.toList = ts) (hal : Nat.ble args.length fn.ntmps = true)
    (h : EvK g f c (ofArgs args) fr fun o e q => (o = .normal ∨ o = .ret) ∧ finO fr.length (outOf g.P e q ts) q = some (r, fr')) : Cl g f args fr r fr' := by
  subst hts
  obtain ⟨n, o, e, q, h1, h2, h3⟩ := h
  refine ⟨n + 1, ?_⟩
  unfold callN
  simp only [hok, hf, hb, hal, h1]
  rcases h2 with rfl | rfl <;> exact h3
variable {d : Option (List Nat)} {ops : Array Oper} {i : Nat} {K' : Env → Fr → Prop}
theorem EvO.nil (h : K' env fr) : EvO g d ops i [] env fr K' := ⟨0, env, fr, rfl, h⟩
theorem EvO.u {l : List Oper} {dst : Option Tmp} {op : Op} {ty : TypeId} {pos : String} {after : Array Edge} {x : SV} {fr' : Fr} {ks : List Nat} (hx : OpR g d i env fr op x fr' ks) (h : EvO g d ops (i + 1) l (updO (killE ks env) dst x) fr' K') : EvO g d ops i (⟨dst, op, ty, pos, after, none⟩ :: l) env fr K' := by
  obtain ⟨n, h1⟩ := hx
  obtain ⟨m, e, r, h2, h3⟩ := h
  refine ⟨max n m, e, r, ?_, h3⟩
  unfold evOps
  simp only
  rw [step_mono (callN_mono (Nat.le_max_left n m)) h1]
  exact evOps_mono (callN_mono (Nat.le_max_right n m)) _ _ _ _ h2
theorem EvO.gd {l : List Oper} {dst : Option Tmp} {op : Op} {ty : TypeId} {pos : String} {after : Array Edge} {j : Nat} {want W : Bool} {x : SV} (hW : gOf ops env j want = some W) (hx : W = true → OpR g d i env fr op x fr []) (h : EvO g d ops (i + 1) l (updO env dst (cndv W x)) fr K') : EvO g d ops i (⟨dst, op, ty, pos, after, some (j, want)⟩ :: l) env fr K' := by
  obtain ⟨m, e, r, h2, h3⟩ := h
  cases W with
  | false =>
    refine ⟨m, e, r, ?_, h3⟩
    unfold evOps
    simp only [hW]
    exact h2
  | true =>
    obtain ⟨n, h1⟩ := hx rfl
    refine ⟨max n m, e, r, ?_, h3⟩
    unfold evOps
    simp only [hW]
    rw [step_mono (callN_mono (Nat.le_max_left n m)) h1]
    exact evOps_mono (callN_mono (Nat.le_max_right n m)) _ _ _ _ h2
theorem EvO.gt {l : List Oper} {dst : Option Tmp} {op : Op} {ty : TypeId} {pos : String} {after : Array Edge} {j : Nat} {want : Bool} {x : SV} {fr' : Fr} {ks : List Nat} (hW : gOf ops env j want = some true) (hx : OpR g d i env fr op x fr' ks) (h : EvO g d ops (i + 1) l (updO (killE ks env) dst (.yes x)) fr' K') : EvO g d ops i (⟨dst, op, ty, pos, after, some (j, want)⟩ :: l) env fr K' := by
  obtain ⟨m, e, r, h2, h3⟩ := h
  obtain ⟨n, h1⟩ := hx
  refine ⟨max n m, e, r, ?_, h3⟩
  unfold evOps
  simp only [hW]
  rw [step_mono (callN_mono (Nat.le_max_left n m)) h1]
  exact evOps_mono (callN_mono (Nat.le_max_right n m)) _ _ _ _ h2
theorem EvO.gf {l : List Oper} {dst : Option Tmp} {op : Op} {ty : TypeId} {pos : String} {after : Array Edge} {j : Nat} {want : Bool} (hW : gOf ops env j want = some false) (h : EvO g d ops (i + 1) l (updO env dst .no) fr K') : EvO g d ops i (⟨dst, op, ty, pos, after, some (j, want)⟩ :: l) env fr K' := by
  obtain ⟨m, e, r, h2, h3⟩ := h
  refine ⟨m, e, r, ?_, h3⟩
  unfold evOps
  simp only [hW]
  exact h2
variable {effs : List Nat}
theorem EvOF.nil (h : K' env fr) : EvOF g effs ops i [] env fr K' := ⟨0, env, fr, rfl, h⟩
theorem EvOF.u {l : List Oper} {dst : Option Tmp} {op : Op} {ty : TypeId} {pos : String} {after : Array Edge} {x : SV} {fr' : Fr} (hfl : fltM effs ops env i = true) (hx : OpR g (some effs) i env fr op x fr' []) (h : EvOF g effs ops (i + 1) l (updO env dst x) fr' K') : EvOF g effs ops i (⟨dst, op, ty, pos, after, none⟩ :: l) env fr K' := by
  obtain ⟨n, h1⟩ := hx
  obtain ⟨m, e, r, h2, h3⟩ := h
  refine ⟨max n m, e, r, ?_, h3⟩
  unfold evOpsF
  simp only [hfl]
  rw [step_mono (callN_mono (Nat.le_max_left n m)) h1]
  exact evOpsF_mono (callN_mono (Nat.le_max_right n m)) _ _ _ _ h2
theorem EvOF.gt {l : List Oper} {dst : Option Tmp} {op : Op} {ty : TypeId} {pos : String} {after : Array Edge} {j : Nat} {want : Bool} {x : SV} {fr' : Fr} (hfl : fltM effs ops env i = true) (hW : gOf ops env j want = some true) (hx : OpR g (some effs) i env fr op x fr' []) (h : EvOF g effs ops (i + 1) l (updO env dst (.yes x)) fr' K') : EvOF g effs ops i (⟨dst, op, ty, pos, after, some (j, want)⟩ :: l) env fr K' := by
  obtain ⟨n, h1⟩ := hx
  obtain ⟨m, e, r, h2, h3⟩ := h
  refine ⟨max n m, e, r, ?_, h3⟩
  unfold evOpsF
  simp only [hfl, hW]
  rw [step_mono (callN_mono (Nat.le_max_left n m)) h1]
  exact evOpsF_mono (callN_mono (Nat.le_max_right n m)) _ _ _ _ h2
theorem EvOF.gf {l : List Oper} {dst : Option Tmp} {op : Op} {ty : TypeId} {pos : String} {after : Array Edge} {j : Nat} {want : Bool} (hfl : fltM effs ops env i = true) (hW : gOf ops env j want = some false) (h : EvOF g effs ops (i + 1) l (updO env dst .no) fr K') : EvOF g effs ops i (⟨dst, op, ty, pos, after, some (j, want)⟩ :: l) env fr K' := by
  obtain ⟨m, e, r, h2, h3⟩ := h
  refine ⟨m, e, r, ?_, h3⟩
  unfold evOpsF
  simp only [hfl, hW]
  exact h2
theorem OpR.r {op : Op} {x : SV} {fr' : Fr} {ks : List Nat} (h : ∀ C, step g C d i env fr op = some (x, fr', ks)) : OpR g d i env fr op x fr' ks := ⟨0, h _⟩
end
end Go.Proofs.YtgbfedgghjcdcaaGreatDoor

/- The tree evaluator, 22: rules for operations whose operands are told by variables; calls. No condition. -/
namespace Go.Proofs.YtgbfedgghjcdcaaGreatDoor
set_option linter.unusedSimpArgs false
set_option linter.unusedVariables false
set_option linter.unusedSectionVars false
open Go.RowKit

section
variable {ops : Array Oper} {env : Env} {j d : Nat} {W b : Bool}
end
section
variable {g : Cfg} {d : Option (List Nat)} {i : Nat} {env : Env} {fr : Fr}
theorem step_p {C : CallF} {op : Op} {x : SV} (hw : isW op = false) (hc : isCall op = false) (h : evP g.P fr env op = some x) : step g C d i env fr op = some (x, fr, []) := by
  unfold step
  cases d with
  | none => simp only [evT, hw, h]
  | some effs =>
    simp only
    cases hasN effs i with
    | true => simp only [evT, hw, h]
    | false => simp only [evD, hc, h]; rfl
theorem OpR.p {op : Op} {x : SV} (hw : isW op = false) (hc : isCall op = false) (h : evP g.P fr env op = some x) : OpR g d i env fr op x fr [] := .r fun _ => step_p hw hc h
theorem OpR.or {c x y : Operand} {b z : Bool} (hc : rd env c = .t (.bool b)) (hx : rd env x = .t (.bool true)) (hy : evE env y = cndv (!b) (.t (.bool z))) : OpR g d i env fr (.pick c x y) (.t (.bool (b || z))) fr [] := .p rfl rfl (by
  unfold evP
  cases b with
  | true => simp only [hc]; exact congrArg some hx
  | false => simp only [hc]; show some (un (evE env y)) = _; rw [hy]; rfl)
theorem OpR.and {c x y : Operand} {b z : Bool} (hc : rd env c = .t (.bool b)) (hx : evE env x = cndv b (.t (.bool z))) (hy : rd env y = .t (.bool false)) : OpR g d i env fr (.pick c x y) (.t (.bool (b && z))) fr [] := .p rfl rfl (by
  unfold evP
  cases b with
  | false => simp only [hc]; exact congrArg some hy
  | true => simp only [hc]; show some (un (evE env x)) = _; rw [hx]; rfl)
theorem OpR.bin {b : BinOp} {xt yt : TypeId} {x y : Operand} {s s' : SV} {r : AV} (hx : rd env x = s) (hy : rd env y = s') (h : binS g.P b xt (isK x || isK y) s s' = some r) : OpR g d i env fr (.binOp b xt x y yt) (.t r) fr [] := .p rfl rfl (by unfold evP; simp only [hx, hy, h])
theorem OpR.add {xt yt : TypeId} {x y : Operand} {m n : Int} (hx : rd env x = .t (.int .i64 m)) (hy : rd env y = .t (.int .i64 n)) (h : -9223372036854775808 ≤ m + n ∧ m + n ≤ 9223372036854775807) : OpR g d i env fr (.binOp .add xt x y yt) (.t (.int .i64 (m + n))) fr [] :=
  .bin hx hy (by unfold binS; simp only [if_true, intS, IntWalk.i64_in _ h])
theorem OpR.sub {xt yt : TypeId} {x y : Operand} {m n : Int} (hx : rd env x = .t (.int .i64 m)) (hy : rd env y = .t (.int .i64 n)) (h : -9223372036854775808 ≤ m - n ∧ m - n ≤ 9223372036854775807) : OpR g d i env fr (.binOp .sub xt x y yt) (.t (.int .i64 (m - n))) fr [] :=
  .bin hx hy (by unfold binS; simp only [if_true, intS, IntWalk.i64_in _ h])
theorem OpR.mul {xt yt : TypeId} {x y : Operand} {m n : Int} (hx : rd env x = .t (.int .i64 m)) (hy : rd env y = .t (.int .i64 n)) (h : -9223372036854775808 ≤ m * n ∧ m * n ≤ 9223372036854775807) : OpR g d i env fr (.binOp .mul xt x y yt) (.t (.int .i64 (m * n))) fr [] :=
  .bin hx hy (by unfold binS; simp only [if_true, intS, IntWalk.i64_in _ h])
/-- The loop's counter: one more. -/
theorem OpR.inc {xt yt : TypeId} {x y : Operand} {k : Nat} (hx : rd env x = .t (.int .i64 (k : Int))) (hy : rd env y = .t (.int .i64 1)) (h : k ≤ 9223372036854775806) : OpR g d i env fr (.binOp .add xt x y yt) (.t (.int .i64 ((k + 1 : Nat) : Int))) fr [] := by
  have := OpR.add (g := g) (d := d) (i := i) (env := env) (fr := fr) (xt := xt) (yt := yt) hx hy (by omega)
  exact this
theorem elemAt_of {sz : Nat} {es : List (List AV)} {m : Int} {c : AV} {cs : List AV} (h0 : 0 ≤ m) (hc : es[m.toNat]? = some (c :: cs)) (hz : Nat.beq sz (cs.length + 1) = true) : elemAt sz es m = some (.t (.tp (c :: cs))) := by
  unfold elemAt
  rw [decide_eq_true h0]
  simp only [hc, hz]
theorem OpR.ixm {t e sz : Nat} {x y : Operand} {k : IntKind} {m : Int} {es : List (List AV)} {c : AV} {cs : List AV} (he : elemT g.P t = some (e, sz)) (hx : rd env x = .t (.arr es)) (hi : rd env y = .t (.int k m)) (h0 : 0 ≤ m) (hc : es[m.toNat]? = some (c :: cs)) (hz : Nat.beq sz (cs.length + 1) = true) :
    OpR g d i env fr (.indexAddr t x y) (.t (.tp (c :: cs))) fr [] := .p rfl rfl (by unfold evP indexAddrS; simp only [he, hx, hi, elemAt_of h0 hc hz])
theorem OpR.ix {t e sz : Nat} {x y : Operand} {k : IntKind} {q : Nat} {es : List (List AV)} {c : AV} {cs : List AV} (he : elemT g.P t = some (e, sz)) (hx : rd env x = .t (.arr es)) (hi : rd env y = .t (.int k (q : Int))) (hc : es[q]? = some (c :: cs)) (hz : Nat.beq sz (cs.length + 1) = true) :
    OpR g d i env fr (.indexAddr t x y) (.t (.tp (c :: cs))) fr [] := .ixm he hx hi (by omega) (by rw [Int.toNat_natCast]; exact hc) hz
theorem OpR.ixr {t e sz r : Nat} {x y : Operand} {k : IntKind} {q : Nat} {ro tch : Bool} {es : List (List AV)} (he : elemT g.P t = some (e, sz)) (hx : rd env x = .ls r) (hi : rd env y = .t (.int k (q : Int))) (hb : fr[r]? = some (.row ro tch sz es)) (hq : q < es.length) :
    OpR g d i env fr (.indexAddr t x y) (.le r sz q 0) fr [] := .p rfl rfl (by
  have h1 : inB (q : Int) es.length = true := by
    unfold inB
    rw [Int.toNat_natCast, Bool.and_eq_true, Nat.blt_eq]
    exact ⟨decide_eq_true (by omega), hq⟩
  have h2 : Nat.beq sz sz = true := by simp
  unfold evP indexAddrS
  simp only [he, hx, hi, hb, h1, h2, Int.toNat_natCast])
theorem OpR.ixrm {t e sz r : Nat} {x y : Operand} {k : IntKind} {m : Int} {ro tch : Bool} {es : List (List AV)} (he : elemT g.P t = some (e, sz)) (hx : rd env x = .ls r) (hi : rd env y = .t (.int k m)) (hb : fr[r]? = some (.row ro tch sz es)) (h0 : 0 ≤ m) (hq : m.toNat < es.length) :
    OpR g d i env fr (.indexAddr t x y) (.le r sz m.toNat 0) fr [] := .p rfl rfl (by
  have h1 : inB m es.length = true := by
    unfold inB
    rw [Bool.and_eq_true, Nat.blt_eq]
    exact ⟨decide_eq_true h0, hq⟩
  have h2 : Nat.beq sz sz = true := by simp
  unfold evP indexAddrS
  simp only [he, hx, hi, hb, h1, h2])
theorem OpR.ldr {t n r sz q j : Nat} {y : Operand} {ro tch : Bool} {es : List (List AV)} {cs : List AV} {c : AV} (ht : sizeT g.P t = some (false, n)) (hy : rd env y = .le r sz q j) (hb : fr[r]? = some (.row ro tch sz es)) (hk : es[q]? = some cs) (hj : cs[j]? = some c) : OpR g d i env fr (.load t y) (.t c) fr [] := .p rfl rfl (by
  have h2 : Nat.beq sz sz = true := by simp
  unfold evP loadS
  simp only [ht, hy, hb, h2, hk, hj])
theorem lenS_sl {P : Program} {t : Nat} {s : SV} {es : List (List AV)} (hs : isSlT P t = true) (hy : slOf fr s = some es) : lenS P fr (some t) s = some (.t (.int .i64 es.length)) := by
  have hns : ∀ q, s ≠ .t (.str q) := fun q h => by subst h; unfold slOf at hy; simp at hy
  unfold lenS
  cases s with
  | t x => cases x <;> first | (exact absurd rfl (hns _)) | (simp only [hs, hy])
  | _ => simp only [hs, hy]
theorem OpR.len {y : Operand} {tys : Array TypeId} {t : Nat} {args : Array Operand} {es : List (List AV)} {n : Nat} (ha : args.toList = [y]) (hy : slOf fr (rd env y) = some es) (ht : tys[0]? = some t) (hs : isSlT g.P t = true) (hn : es.length = n) : OpR g d i env fr (.call ⟨.builtin .len, args, tys⟩) (.t (.int .i64 (n : Int))) fr [] := .p rfl rfl (by
  subst hn
  unfold evP builtinP
  simp only [ha, ht]
  exact lenS_sl hs hy)
/-- A store into an own row, one cell. -/
theorem OpR.str {t n r sz q j : Nat} {a y : Operand} {tch : Bool} {es : List (List AV)} {cs : List AV} {c : AV} {ag : Bool} {effOk : ∀ C : CallF, step g C d i env fr (.store t a y) = evT g C env fr (.store t a y)} (ht : sizeT g.P t = some (ag, n)) (ha : rd env a = .le r sz q j) (hy : rd env y = .t c) (hone : oneS (.t c) = true) (hn : Nat.beq 1 n = true) (hb : fr[r]? = some (.row false tch sz es)) (hk : es[q]? = some cs) (hj : Nat.ble (j + 1) cs.length = true) : OpR g d i env fr (.store t a y) .dead (fr.set r (.row false tch sz (es.set q (cs.set j c)))) [] := .r fun C => by
  obtain rfl : 1 = n := by simpa using hn
  have h2 : Nat.beq sz sz = true := by simp
  have hcell : cellsS (.t c) = [.t c] := by cases c <;> first | rfl | (simp [oneS] at hone)
  rw [effOk C]
  unfold evT
  simp only [isW]
  unfold evW
  simp only
  unfold storeE
  simp only [ht, ha, hy, hcell, List.all_cons, hone, List.all_nil, Bool.and_self, List.length_cons, List.length_nil, hb, h2, hk, hj, toAVs, toAV, deep, rchs, rch, hasN, List.any_nil, putA, freeze]
  rfl

/-! calls -/
/-- What a call gives that handed nothing over. -/
def callRes (fr : Fr) (dr : Bool) (rs : List Nat) (r : SV) (ex : Fr) : Option Res := match flatS r with
  | true => some (r, fr, [])
  | false => match dr with
    | false => some (r.sub (backσ [] fr.length), freeze fr rs ++ ex.map (fun b => unTch (b.sub (backσ [] fr.length))), [])
    | true => match rs with
      | [] => match r.refs with
        | [] => some (r, fr, [])
        | _ => match toAV ex deep r with
          | some x => some (.t x, fr, [])
          | none => none
      | _ => none
theorem callS_pure {C : CallF} {dr : Bool} {f : Nat} {args : List SV} {xs : List AV} {as' : List SV} {r : SV} {ex : Fr} (hx : toAVs fr (treeArgs (handL g f 0 args) args) = some xs) (hh : dedup [] (handRefs (handL g f 0 args) args) = []) (hm : mixArgs (idxσ []) (handL g f 0 args) args xs = as') (hc : C f as' [] = some (r, ex)) :
    callS g C dr fr f args = callRes fr dr (rchs fr (treeArgs (handL g f 0 args) args)) r ex := by
  subst hm
  unfold callS callRes
  simp only [hx, hh, hc]
  cases flatS r <;> rfl
def drOf : Option (List Nat) → Nat → Bool
  | none, _ => false
  | some e, i => !hasN e i
theorem step_call {C : CallF} {c : Operand} {args : Array Operand} {tys : Array TypeId} : step g C d i env fr (.call ⟨.value c, args, tys⟩) = evW g C (drOf d i) env fr (.call ⟨.value c, args, tys⟩) := by
  cases d with
  | none => rfl
  | some e =>
    unfold step drOf
    simp only
    cases hasN e i <;> rfl
/-- A call of a function that gets trees. -/
theorem OpR.call {c : Operand} {args : Array Operand} {tys : Array TypeId} {f : Nat} {pa qa argv : List SV} {xs : List AV} {as' : List SV} {r x : SV} {ex fr' : Fr} (hcl : Cl g f as' [] r ex) (hcal : calleeS (rd env c) = some (f, pa, qa)) (hav : pa ++ args.toList.map (rd env) ++ qa = argv) (hx : toAVs fr (treeArgs (handL g f 0 argv) argv) = some xs) (hh : dedup [] (handRefs (handL g f 0 argv) argv) = []) (hm : mixArgs (idxσ []) (handL g f 0 argv) argv xs = as')
    (hr : callRes fr (drOf d i) (rchs fr (treeArgs (handL g f 0 argv) argv)) r ex = some (x, fr', [])) : OpR g d i env fr (.call ⟨.value c, args, tys⟩) x fr' [] := by
  obtain ⟨n, hn⟩ := hcl
  refine ⟨n, ?_⟩
  subst hav
  rw [step_call]
  unfold evW
  simp only
  unfold callE
  simp only [hcal]
  rw [callS_pure hx hh hm hn]
  exact hr
end
end Go.Proofs.YtgbfedgghjcdcaaGreatDoor

/- The tree evaluator, 23: rules that walk by themselves: conditions are split where they arise; loops by a measure. No condition. -/
namespace Go.Proofs.YtgbfedgghjcdcaaGreatDoor
set_option linter.unusedSimpArgs false
set_option linter.unusedVariables false
set_option linter.unusedSectionVars false
open Go.RowKit

section
variable {g : Cfg} {f : Nat} {env : Env} {fr : Fr} {d : Option (List Nat)} {ops : Array Oper} {i i' : Nat} {K' : Env → Fr → Prop} {l : List Oper} {dst : Option Tmp} {op : Op} {ty : TypeId} {pos : String} {after : Array Edge} {fr' : Fr}
theorem EvO.u0 {x : SV} (hx : OpR g d i env fr op x fr' []) (h : EvO g d ops (i + 1) l (updO env dst x) fr' K') : EvO g d ops i (⟨dst, op, ty, pos, after, none⟩ :: l) env fr K' := EvO.u hx h
theorem EvO.gt0 {j : Nat} {want : Bool} {x : SV} (hW : gOf ops env j want = some true) (hx : OpR g d i env fr op x fr' []) (h : EvO g d ops (i + 1) l (updO env dst (.yes x)) fr' K') : EvO g d ops i (⟨dst, op, ty, pos, after, some (j, want)⟩ :: l) env fr K' := EvO.gt hW hx h
theorem OpR.mv {y : Operand} {v : SV} (h : rd env y = v) : OpR g d i env fr (.move y) v fr [] := .p rfl rfl (by unfold evP; simp only [h])
theorem OpR.asg {y : Operand} {v : SV} (h : rd env y = v) : OpR g d i env fr (.assign y) v fr [] := .p rfl rfl (by unfold evP; simp only [h])
theorem OpR.pk_t {c x y : Operand} {v : SV} (hc : rd env c = .t (.bool true)) (h : rd env x = v) : OpR g d i env fr (.pick c x y) v fr [] := .p rfl rfl (by unfold evP; simp only [hc, h])
theorem OpR.pk_f {c x y : Operand} {v : SV} (hc : rd env c = .t (.bool false)) (h : rd env y = v) : OpR g d i env fr (.pick c x y) v fr [] := .p rfl rfl (by unfold evP; simp only [hc, h])
theorem OpR.fal {st fi i j off n : Nat} {y : Operand} (hy : rd env y = .lp i j) (ho : fieldOff g.P st fi = some off) (hn : j + off = n) : OpR g d i' env fr (.fieldAddr st y fi) (.lp i n) fr [] := .p rfl rfl (by
  subst hn
  unfold evP fieldAddrS
  simp only [ho, hy])
theorem OpR.fae {st fi r sz k j off n : Nat} {y : Operand} (hy : rd env y = .le r sz k j) (ho : fieldOff g.P st fi = some off) (hn : j + off = n) : OpR g d i' env fr (.fieldAddr st y fi) (.le r sz k n) fr [] := .p rfl rfl (by
  subst hn
  unfold evP fieldAddrS
  simp only [ho, hy])
theorem OpR.eqs {t : Nat} {x y : Operand} {yt : TypeId} {cs ds : List AV} {n : Nat} {r : Bool} (hx : rd env x = .t (.agg cs)) (hy : rd env y = .t (.agg ds)) (hg : g.P.eqGuardType g.P.depth t = false) (ht : sizeT g.P t = some (true, n)) (hr : eqC g.P 20 t cs ds = some r) : OpR g d i' env fr (.binOp .eql t x y yt) (.t (.bool r)) fr [] := .bin hx hy (by unfold binS aggEq; simp only [hg, ht, hr, sameS])
theorem OpR.nes {t : Nat} {x y : Operand} {yt : TypeId} {cs ds : List AV} {n : Nat} {r : Bool} (hx : rd env x = .t (.agg cs)) (hy : rd env y = .t (.agg ds)) (hg : g.P.eqGuardType g.P.depth t = false) (ht : sizeT g.P t = some (true, n)) (hr : eqC g.P 20 t cs ds = some r) : OpR g d i' env fr (.binOp .neq t x y yt) (.t (.bool (!r))) fr [] := .bin hx hy (by unfold binS aggEq; simp only [hg, ht, hr, sameS])
theorem OpR.bsl {t len : Nat} {parts : Array (Nat × Operand)} {es : List (List AV)} (hw : isW (.buildSlice t len parts) = false) (ho : (parts.toList.all fun p => (cellsS (rd env p.2)).all oneS) = true) (h : builtSl g.P t len (parts.toList.map fun p => (p.1, rd env p.2)) = some es) : OpR g d i' env fr (.buildSlice t len parts) (.tc es) fr [] := .p hw rfl (by unfold evP; simp only [ho, h])
theorem OpR.lk {t e : Nat} {dd : TypeDesc} {x k : Operand} {ok : Bool} {ka : AV} {ks : List AV} {vs : List SV} {z : SV} (hm : mapT g.P t = some (e, dd)) (hk : rd env k = .t ka) (ho : mapOf fr (rd env x) = some (ks, vs)) (hf : findA dd ka ks 0 = some none) (hz : zeroS g.P e = some z) : OpR g d i' env fr (.lookup t x k ok) (okS ok z false) fr [] := .p rfl rfl (by unfold evP lookupS; simp only [hm, hk, ho, hf, hz])
theorem OpR.lki {t e j : Nat} {dd : TypeDesc} {x k : Operand} {ok : Bool} {ka : AV} {ks : List AV} {vs : List SV} {z : SV} (hm : mapT g.P t = some (e, dd)) (hk : rd env k = .t ka) (ho : mapOf fr (rd env x) = some (ks, vs)) (hf : findA dd ka ks 0 = some (some j)) (hz : vs[j]? = some z) : OpR g d i' env fr (.lookup t x k ok) (okS ok z true) fr [] := .p rfl rfl (by unfold evP lookupS; simp only [hm, hk, ho, hf, hz])
/-- A call to which own blocks are handed over. -/
theorem OpR.callH {c : Operand} {args : Array Operand} {tys : Array TypeId} {f h0 : Nat} {ht hs : List Nat} {pa qa argv : List SV} {xs : List AV} {as' : List SV} {r x : SV} {fr1 bs bs' fr' fr2 : Fr} {ks : List Nat} (hcl : Cl g f as' bs' r fr') (hdr : drOf d i' = false) (hcal : calleeS (rd env c) = some (f, pa, qa)) (hav : pa ++ args.toList.map (rd env) ++ qa = argv) (hx : toAVs fr (treeArgs (handL g f 0 argv) argv) = some xs) (hh : dedup [] (handRefs (handL g f 0 argv) argv) = h0 :: ht)
    (hs0 : close fr 4 (h0 :: ht) = hs) (hf : freeze fr (rchs fr (treeArgs (handL g f 0 argv) argv)) = fr1) (hg : getAll fr1 hs = some bs) (hc : closedFr hs bs = true) (hm : mixArgs (idxσ hs) (handL g f 0 argv) argv xs = as') (hb : bs.map (fun b => unTch (b.sub (idxσ hs))) = bs') (hk : kindOk hs fr' fr1 = true) (hr : (r.sub (backσ hs fr.length), back hs fr1 fr', touched hs fr') = (x, fr2, ks)) : OpR g d i' env fr (.call ⟨.value c, args, tys⟩) x fr2 ks := by
  obtain ⟨n, hn⟩ := hcl
  refine ⟨n, ?_⟩
  subst hav hs0 hf hm hb
  rw [step_call, hdr]
  unfold evW
  simp only
  unfold callE
  simp only [hcal]
  unfold callS
  simp only [hx, hh, hg, hc, hn, hk, hr]
theorem EvO.apc {o : Oper} {l1 l2 : List Oper} (h : EvO g d ops i (o :: List.append l1 l2) env fr K') : EvO g d ops i (List.append (o :: l1) l2) env fr K' := h
theorem EvO.apn {l2 : List Oper} (h : EvO g d ops i l2 env fr K') : EvO g d ops i (List.append [] l2) env fr K' := h
theorem EvO.apa {l1 l2 l3 : List Oper} (h : EvO g d ops i (List.append l1 (List.append l2 l3)) env fr K') : EvO g d ops i (List.append (List.append l1 l2) l3) env fr K' := by
  have e : List.append (List.append l1 l2) l3 = List.append l1 (List.append l2 l3) := List.append_assoc l1 l2 l3
  rw [e]; exact h
theorem OpR.bld {t : Nat} {parts : Array (Nat × Operand)} {cs : List SV} {v : SV} (ho : (parts.toList.all fun p => (cellsS (rd env p.2)).all oneS) = true) (h : builtS g.P t (parts.toList.map fun p => (p.1, rd env p.2)) = some cs) (hv : aggS cs = v) : OpR g d i' env fr (.build t parts) v fr [] := .p rfl rfl (by unfold evP; simp only [ho, h, hv])
/-- The same, where the trees that are lent name no own block. -/
theorem OpR.callP {c : Operand} {args : Array Operand} {tys : Array TypeId} {f h0 : Nat} {ht : List Nat} (hs : List Nat) {pa qa argv : List SV} {xs : List AV} {as' : List SV} {r x : SV} {bs bs' fr' fr2 : Fr} {ks : List Nat} (hcl : Cl g f as' bs' r fr') (hdr : drOf d i' = false) (hcal : calleeS (rd env c) = some (f, pa, qa)) (hav : pa ++ args.toList.map (rd env) ++ qa = argv) (hx : toAVs fr (treeArgs (handL g f 0 argv) argv) = some xs) (hh : dedup [] (handRefs (handL g f 0 argv) argv) = h0 :: ht)
    (hs0 : close fr 4 (h0 :: ht) = hs) (hf : rchs fr (treeArgs (handL g f 0 argv) argv) = []) (hg : getAll fr hs = some bs) (hc : closedFr hs bs = true) (hm : mixArgs (idxσ hs) (handL g f 0 argv) argv xs = as') (hb : bs.map (fun b => unTch (b.sub (idxσ hs))) = bs') (hk : kindOk hs fr' fr = true) (hr : (r.sub (backσ hs fr.length), back hs fr fr', touched hs fr') = (x, fr2, ks)) : OpR g d i' env fr (.call ⟨.value c, args, tys⟩) x fr2 ks := OpR.callH hcl hdr hcal hav hx hh hs0 (by rw [hf]; rfl) hg hc hm hb hk hr
theorem EvO.spb {j : Nat} {t : Tmp} {b : Bool} (ht : b = true → EvO g d ops j l (updO env (some t) (.t (.bool true))) fr K') (hf : b = false → EvO g d ops j l (updO env (some t) (.t (.bool false))) fr K') : EvO g d ops j l (updO env (some t) (.t (.bool b))) fr K' := by
  cases b with
  | true => exact ht rfl
  | false => exact hf rfl
theorem EvO.spb_y {j : Nat} {t : Tmp} {b : Bool} (ht : b = true → EvO g d ops j l (updO env (some t) (.yes (.t (.bool true)))) fr K') (hf : b = false → EvO g d ops j l (updO env (some t) (.yes (.t (.bool false)))) fr K') : EvO g d ops j l (updO env (some t) (.yes (.t (.bool b)))) fr K' := by
  cases b with
  | true => exact ht rfl
  | false => exact hf rfl
section
variable {j : Nat} {t : Tmp} {p : Prop} [Decidable p]
theorem EvO.spd_t (hp : p) (h : EvO g d ops j l (updO env (some t) (.t (.bool true))) fr K') : EvO g d ops j l (updO env (some t) (.t (.bool (decide p)))) fr K' := .spb (fun _ => h) (fun h => absurd hp (of_decide_eq_false h))
theorem EvO.spd_f (hp : ¬p) (h : EvO g d ops j l (updO env (some t) (.t (.bool false))) fr K') : EvO g d ops j l (updO env (some t) (.t (.bool (decide p)))) fr K' := .spb (fun h => absurd (of_decide_eq_true h) hp) (fun _ => h)
theorem EvO.spd (ht : p → EvO g d ops j l (updO env (some t) (.t (.bool true))) fr K') (hf : ¬p → EvO g d ops j l (updO env (some t) (.t (.bool false))) fr K') : EvO g d ops j l (updO env (some t) (.t (.bool (decide p)))) fr K' := .spb (fun h => ht (of_decide_eq_true h)) (fun h => hf (of_decide_eq_false h))
theorem EvO.spd_yt (hp : p) (h : EvO g d ops j l (updO env (some t) (.yes (.t (.bool true)))) fr K') : EvO g d ops j l (updO env (some t) (.yes (.t (.bool (decide p))))) fr K' := .spb_y (fun _ => h) (fun h => absurd hp (of_decide_eq_false h))
theorem EvO.spd_yf (hp : ¬p) (h : EvO g d ops j l (updO env (some t) (.yes (.t (.bool false)))) fr K') : EvO g d ops j l (updO env (some t) (.yes (.t (.bool (decide p))))) fr K' := .spb_y (fun h => absurd (of_decide_eq_true h) hp) (fun _ => h)
theorem EvO.spd_y (ht : p → EvO g d ops j l (updO env (some t) (.yes (.t (.bool true)))) fr K') (hf : ¬p → EvO g d ops j l (updO env (some t) (.yes (.t (.bool false)))) fr K') : EvO g d ops j l (updO env (some t) (.yes (.t (.bool (decide p))))) fr K' := .spb_y (fun h => ht (of_decide_eq_true h)) (fun h => hf (of_decide_eq_false h))
theorem EvO.spn_t (hp : ¬p) (h : EvO g d ops j l (updO env (some t) (.t (.bool true))) fr K') : EvO g d ops j l (updO env (some t) (.t (.bool (!decide p)))) fr K' := by rw [decide_eq_false hp]; exact h
theorem EvO.spn_f (hp : p) (h : EvO g d ops j l (updO env (some t) (.t (.bool false))) fr K') : EvO g d ops j l (updO env (some t) (.t (.bool (!decide p)))) fr K' := by rw [decide_eq_true hp]; exact h
theorem EvO.spn (ht : ¬p → EvO g d ops j l (updO env (some t) (.t (.bool true))) fr K') (hf : p → EvO g d ops j l (updO env (some t) (.t (.bool false))) fr K') : EvO g d ops j l (updO env (some t) (.t (.bool (!decide p)))) fr K' := if h : p then .spn_f h (hf h) else .spn_t h (ht h)
theorem EvO.spn_yt (hp : ¬p) (h : EvO g d ops j l (updO env (some t) (.yes (.t (.bool true)))) fr K') : EvO g d ops j l (updO env (some t) (.yes (.t (.bool (!decide p))))) fr K' := by rw [decide_eq_false hp]; exact h
theorem EvO.spn_yf (hp : p) (h : EvO g d ops j l (updO env (some t) (.yes (.t (.bool false)))) fr K') : EvO g d ops j l (updO env (some t) (.yes (.t (.bool (!decide p))))) fr K' := by rw [decide_eq_true hp]; exact h
theorem EvO.spn_y (ht : ¬p → EvO g d ops j l (updO env (some t) (.yes (.t (.bool true)))) fr K') (hf : p → EvO g d ops j l (updO env (some t) (.yes (.t (.bool false)))) fr K') : EvO g d ops j l (updO env (some t) (.yes (.t (.bool (!decide p))))) fr K' := if h : p then .spn_yf h (hf h) else .spn_yt h (ht h)
end
theorem EvO.nilT {P : Env → Fr → Prop} {K : Out → Env → Fr → Prop} (h : P env fr) : EvO g d ops i [] env fr (fun e r => thenK P K .normal e r) := EvO.nil h
theorem EvO.nilB {id : Nat} {K : Out → Env → Fr → Prop} (h : K .normal env fr) : EvO g d ops i [] env fr (fun e r => blockK id K .normal e r) := EvO.nil h
variable {effs : List Nat}
theorem EvOF.apc {o : Oper} {l1 l2 : List Oper} (h : EvOF g effs ops i (o :: List.append l1 l2) env fr K') : EvOF g effs ops i (List.append (o :: l1) l2) env fr K' := h
theorem EvOF.apn {l2 : List Oper} (h : EvOF g effs ops i l2 env fr K') : EvOF g effs ops i (List.append [] l2) env fr K' := h
theorem EvOF.apa {l1 l2 l3 : List Oper} (h : EvOF g effs ops i (List.append l1 (List.append l2 l3)) env fr K') : EvOF g effs ops i (List.append (List.append l1 l2) l3) env fr K' := by
  have e : List.append (List.append l1 l2) l3 = List.append l1 (List.append l2 l3) := List.append_assoc l1 l2 l3
  rw [e]; exact h
theorem EvOF.spb {j : Nat} {t : Tmp} {b : Bool} (ht : b = true → EvOF g effs ops j l (updO env (some t) (.t (.bool true))) fr K') (hf : b = false → EvOF g effs ops j l (updO env (some t) (.t (.bool false))) fr K') : EvOF g effs ops j l (updO env (some t) (.t (.bool b))) fr K' := by
  cases b with
  | true => exact ht rfl
  | false => exact hf rfl
theorem EvOF.spb_y {j : Nat} {t : Tmp} {b : Bool} (ht : b = true → EvOF g effs ops j l (updO env (some t) (.yes (.t (.bool true)))) fr K') (hf : b = false → EvOF g effs ops j l (updO env (some t) (.yes (.t (.bool false)))) fr K') : EvOF g effs ops j l (updO env (some t) (.yes (.t (.bool b)))) fr K' := by
  cases b with
  | true => exact ht rfl
  | false => exact hf rfl
section
variable {j : Nat} {t : Tmp} {p : Prop} [Decidable p]
theorem EvOF.spd_t (hp : p) (h : EvOF g effs ops j l (updO env (some t) (.t (.bool true))) fr K') : EvOF g effs ops j l (updO env (some t) (.t (.bool (decide p)))) fr K' := .spb (fun _ => h) (fun h => absurd hp (of_decide_eq_false h))
theorem EvOF.spd_f (hp : ¬p) (h : EvOF g effs ops j l (updO env (some t) (.t (.bool false))) fr K') : EvOF g effs ops j l (updO env (some t) (.t (.bool (decide p)))) fr K' := .spb (fun h => absurd (of_decide_eq_true h) hp) (fun _ => h)
theorem EvOF.spd (ht : p → EvOF g effs ops j l (updO env (some t) (.t (.bool true))) fr K') (hf : ¬p → EvOF g effs ops j l (updO env (some t) (.t (.bool false))) fr K') : EvOF g effs ops j l (updO env (some t) (.t (.bool (decide p)))) fr K' := .spb (fun h => ht (of_decide_eq_true h)) (fun h => hf (of_decide_eq_false h))
theorem EvOF.spd_yt (hp : p) (h : EvOF g effs ops j l (updO env (some t) (.yes (.t (.bool true)))) fr K') : EvOF g effs ops j l (updO env (some t) (.yes (.t (.bool (decide p))))) fr K' := .spb_y (fun _ => h) (fun h => absurd hp (of_decide_eq_false h))
theorem EvOF.spd_yf (hp : ¬p) (h : EvOF g effs ops j l (updO env (some t) (.yes (.t (.bool false)))) fr K') : EvOF g effs ops j l (updO env (some t) (.yes (.t (.bool (decide p))))) fr K' := .spb_y (fun h => absurd (of_decide_eq_true h) hp) (fun _ => h)
theorem EvOF.spd_y (ht : p → EvOF g effs ops j l (updO env (some t) (.yes (.t (.bool true)))) fr K') (hf : ¬p → EvOF g effs ops j l (updO env (some t) (.yes (.t (.bool false)))) fr K') : EvOF g effs ops j l (updO env (some t) (.yes (.t (.bool (decide p))))) fr K' := .spb_y (fun h => ht (of_decide_eq_true h)) (fun h => hf (of_decide_eq_false h))
theorem EvOF.spn_t (hp : ¬p) (h : EvOF g effs ops j l (updO env (some t) (.t (.bool true))) fr K') : EvOF g effs ops j l (updO env (some t) (.t (.bool (!decide p)))) fr K' := by rw [decide_eq_false hp]; exact h
theorem EvOF.spn_f (hp : p) (h : EvOF g effs ops j l (updO env (some t) (.t (.bool false))) fr K') : EvOF g effs ops j l (updO env (some t) (.t (.bool (!decide p)))) fr K' := by rw [decide_eq_true hp]; exact h
theorem EvOF.spn (ht : ¬p → EvOF g effs ops j l (updO env (some t) (.t (.bool true))) fr K') (hf : p → EvOF g effs ops j l (updO env (some t) (.t (.bool false))) fr K') : EvOF g effs ops j l (updO env (some t) (.t (.bool (!decide p)))) fr K' := if h : p then .spn_f h (hf h) else .spn_t h (ht h)
theorem EvOF.spn_yt (hp : ¬p) (h : EvOF g effs ops j l (updO env (some t) (.yes (.t (.bool true)))) fr K') : EvOF g effs ops j l (updO env (some t) (.yes (.t (.bool (!decide p))))) fr K' := by rw [decide_eq_false hp]; exact h
theorem EvOF.spn_yf (hp : p) (h : EvOF g effs ops j l (updO env (some t) (.yes (.t (.bool false)))) fr K') : EvOF g effs ops j l (updO env (some t) (.yes (.t (.bool (!decide p))))) fr K' := by rw [decide_eq_true hp]; exact h
theorem EvOF.spn_y (ht : ¬p → EvOF g effs ops j l (updO env (some t) (.yes (.t (.bool true)))) fr K') (hf : p → EvOF g effs ops j l (updO env (some t) (.yes (.t (.bool false)))) fr K') : EvOF g effs ops j l (updO env (some t) (.yes (.t (.bool (!decide p))))) fr K' := if h : p then .spn_yf h (hf h) else .spn_yt h (ht h)
end
theorem EvOF.nilT {P : Env → Fr → Prop} {K : Out → Env → Fr → Prop} (h : P env fr) : EvOF g effs ops i [] env fr (fun e r => thenK P K .normal e r) := EvOF.nil h
theorem EvOF.nilB {id : Nat} {K : Out → Env → Fr → Prop} (h : K .normal env fr) : EvOF g effs ops i [] env fr (fun e r => blockK id K .normal e r) := EvOF.nil h
variable {K : Out → Env → Fr → Prop}
theorem EvK.cond_t {c : Operand} {a b : Code} (hc : rd env c = .t (.bool true)) (ha : EvK g f a env fr K) : EvK g f (.cond c a b) env fr K := EvK.cond hc (fun _ => ha) (fun h => nomatch h)
theorem EvK.cond_f {c : Operand} {a b : Code} (hc : rd env c = .t (.bool false)) (ha : EvK g f b env fr K) : EvK g f (.cond c a b) env fr K := EvK.cond hc (fun h => nomatch h) (fun _ => ha)
theorem thenK_n {P : Env → Fr → Prop} (h : P env fr) : thenK P K .normal env fr := h
theorem thenK_e {P : Env → Fr → Prop} {id : Nat} (h : K (.exit id) env fr) : thenK P K (.exit id) env fr := h
theorem thenK_r {P : Env → Fr → Prop} (h : K .ret env fr) : thenK P K .ret env fr := h
theorem blockK_n {id : Nat} (h : K .normal env fr) : blockK id K .normal env fr := h
theorem blockK_r {id : Nat} (h : K .ret env fr) : blockK id K .ret env fr := h
theorem blockK_h {id : Nat} (h : K .normal env fr) : blockK id K (.exit id) env fr := by
  unfold blockK
  have : Nat.beq id id = true := by simp
  simp only [this]
  exact h
theorem blockK_m {id j : Nat} (hj : Nat.beq j id = false) (h : K (.exit j) env fr) : blockK id K (.exit j) env fr := by
  unfold blockK
  simp only [hj]
  exact h
/-- The slots at a loop's head, in normal form. -/
inductive Slots (env : Env) (fr : Fr) (h : Nat) : List Nat → List (Nat × SV) → Prop where
  | nil : Slots env fr h [] []
  | cons {t : Nat} {v : SV} {sl : List Nat} {vs : List (Nat × SV)} (hv : cutV fr h (Go.Proofs.YtgbfedgghjcdcaaGreatDoor.un (env t)) = v) (ht : Slots env fr h sl vs) : Slots env fr h (t :: sl) ((t, v) :: vs)
theorem Slots.eq {h : Nat} {sl : List Nat} {vs : List (Nat × SV)} (hs : Slots env fr h sl vs) : sl.map (fun t => (t, cutV fr h (Go.Proofs.YtgbfedgghjcdcaaGreatDoor.un (env t)))) = vs := by
  induction hs with
  | nil => rfl
  | cons hv _ ih => rw [List.map_cons, hv, ih]
theorem trim_self : trim fr.length fr = fr := by
  unfold trim
  have : Nat.ble fr.length fr.length = true := by simp
  simp only [this]
theorem EvK.loopV {b : Code} {vs : List (Nat × SV)} {sl : List Nat} {own : List (Nat × Nat)} {env' : Env} {fr' : Fr} (ho : g.own f (blockId b) = own) (hp : ownE own env fr = (env', fr')) (hl : g.lv f (blockId b) = some sl) (hs : Slots env' fr' fr'.length sl vs) (h : EvL g f b (mkEnv vs) fr' K) : EvK g f (.loop b) env fr K := by
  refine EvK.loop (p := (env', fr')) (by rw [ho]; exact hp) (q := (mkEnv vs, fr')) ?_ h
  rw [hl]
  show (mkEnv (sl.map fun t => (t, cutV fr' (hOf sl fr'.length fr') (Go.Proofs.YtgbfedgghjcdcaaGreatDoor.un (env' t)))), trim (hOf sl fr'.length fr') fr') = _
  rw [hOf_self, hs.eq, trim_self]
/-- A loop with a measure: slots that change (told by a state) ahead of those that do not. -/
theorem EvL.ind {b : Code} {base : List (Nat × SV)} {σ : Type} (V : σ → List (Nat × SV)) (I : σ → Prop) (μ : σ → Nat) (s0 : σ) (he : env = mkEnv (V s0 ++ base)) (h0 : I s0)
    (hs : ∀ s, I s → EvK g f b (mkEnv (V s ++ base)) fr (thenK (fun e r => ∃ s', (head (g.lv f (blockId b)) fr.length e r).1 = mkEnv (V s' ++ base) ∧ (head (g.lv f (blockId b)) fr.length e r).2 = fr ∧ I s' ∧ μ s' < μ s) K)) : EvL g f b env fr K := by
  subst he
  have key : ∀ (n : Nat) (s : σ), μ s < n → I s → EvL g f b (mkEnv (V s ++ base)) fr K := by
    intro n
    induction n with
    | zero => intro s h; omega
    | succ n ih =>
      intro s hn hI
      refine EvL.step ?_
      refine (hs s hI).post ?_
      intro o e r h
      cases o with
      | normal =>
        obtain ⟨s', h1, h2, h3, h4⟩ := h
        show EvL g f b _ _ K
        rw [h1, h2]
        exact ih s' (by omega) h3
      | exit id => exact h
      | ret => exact h
  exact key _ s0 (Nat.lt_succ_self _) h0
/-- The same, with own blocks that change. -/
theorem EvL.indF {b : Code} {base : List (Nat × SV)} {σ : Type} (V : σ → List (Nat × SV)) (F : σ → Fr) (I : σ → Prop) (μ : σ → Nat) (s0 : σ) (he : env = mkEnv (V s0 ++ base)) (hF : fr = F s0) (h0 : I s0)
    (hs : ∀ s, I s → EvK g f b (mkEnv (V s ++ base)) (F s) (thenK (fun e r => ∃ s', (head (g.lv f (blockId b)) (F s).length e r).1 = mkEnv (V s' ++ base) ∧ (head (g.lv f (blockId b)) (F s).length e r).2 = F s' ∧ I s' ∧ μ s' < μ s) K)) : EvL g f b env fr K := by
  subst he hF
  have key : ∀ (n : Nat) (s : σ), μ s < n → I s → EvL g f b (mkEnv (V s ++ base)) (F s) K := by
    intro n
    induction n with
    | zero => intro s h; omega
    | succ n ih =>
      intro s hn hI
      refine EvL.step ?_
      refine (hs s hI).post ?_
      intro o e r h
      cases o with
      | normal =>
        obtain ⟨s', h1, h2, h3, h4⟩ := h
        show EvL g f b _ _ K
        rw [h1, h2]
        exact ih s' (by omega) h3
      | exit id => exact h
      | ret => exact h
  exact key _ s0 (Nat.lt_succ_self _) h0
theorem fin_b {o : Out} {m : Nat} {s : Option SV} {b b' : Bool} {fr' : Fr} (ho : o = .normal ∨ o = .ret) (h : finO m s fr = some (.t (.bool b), fr')) (e : b = b') : (o = .normal ∨ o = .ret) ∧ finO m s fr = some (.t (.bool b'), fr') := ⟨ho, by rw [h, e]⟩
theorem fin_i {o : Out} {m : Nat} {s : Option SV} {k : IntKind} {b b' : Int} {fr' : Fr} (ho : o = .normal ∨ o = .ret) (h : finO m s fr = some (.t (.int k b), fr')) (e : b = b') : (o = .normal ∨ o = .ret) ∧ finO m s fr = some (.t (.int k b'), fr') := ⟨ho, by rw [h, e]⟩
theorem fin_ii {o : Out} {m : Nat} {s : Option SV} {k j : IntKind} {b b' c c' : Int} {fr' : Fr} (ho : o = .normal ∨ o = .ret) (h : finO m s fr = some (.tup [.t (.int k b), .t (.int j c)], fr')) (e : b = b' ∧ c = c') : (o = .normal ∨ o = .ret) ∧ finO m s fr = some (.tup [.t (.int k b'), .t (.int j c')], fr') := ⟨ho, by rw [h, e.1, e.2]⟩
end
end Go.Proofs.YtgbfedgghjcdcaaGreatDoor

/- The tree evaluator, 24: rules for slice expressions whose bounds are told by variables. No condition. -/
namespace Go.Proofs.YtgbfedgghjcdcaaGreatDoor
set_option linter.unusedSimpArgs false
set_option linter.unusedVariables false
set_option linter.unusedSectionVars false
open Go.RowKit

mutual
theorem SV.sub_no {σ : Nat → Option Nat} : ∀ x : SV, x.refs = [] → SV.sub σ x = x
  | .t x, _ => by rw [SV.sub]
  | .nil, _ => by rw [SV.sub]
  | .tc es, _ => by rw [SV.sub]
  | .nn es, _ => by rw [SV.sub]
  | .lp i j, h => by simp [SV.refs] at h
  | .ls i, h => by simp [SV.refs] at h
  | .lv i sz a n, h => by simp [SV.refs] at h
  | .le i sz k j, h => by simp [SV.refs] at h
  | .lm i, h => by simp [SV.refs] at h
  | .agg cs, h => by rw [SV.sub, SV.subL_no cs (by simpa [SV.refs] using h)]
  | .tup cs, h => by rw [SV.sub, SV.subL_no cs (by simpa [SV.refs] using h)]
  | .fn f nf cs, h => by rw [SV.sub, SV.subL_no cs (by simpa [SV.refs] using h)]
  | .yes s, h => by rw [SV.sub, SV.sub_no s (by simpa [SV.refs] using h)]
  | .no, _ => by rw [SV.sub]
  | .dead, _ => by rw [SV.sub]
theorem SV.subL_no {σ : Nat → Option Nat} : ∀ cs : List SV, SV.refsL cs = [] → SV.subL σ cs = cs
  | [], _ => by rw [SV.subL]
  | c :: cs, h => by
    rw [SV.refsL, List.append_eq_nil_iff] at h
    rw [SV.subL, SV.sub_no c h.1, SV.subL_no cs h.2]
end
section
variable {g : Cfg} {f : Nat} {env : Env} {fr : Fr} {K : Out → Env → Fr → Prop} {c : Operand} {a b : Code} {p : Prop} [Decidable p]
end
/-- The driver stops here. -/
def StopAt (p : Prop) : Prop := p
theorem StopAt.go {p : Prop} (h : p) : StopAt p := h
section
variable {g : Cfg} {d : Option (List Nat)} {i : Nat} {env : Env} {fr : Fr}
/-- A call whose answer holds no address. -/
theorem OpR.callF {c : Operand} {args : Array Operand} {tys : Array TypeId} {f : Nat} {pa qa argv : List SV} {xs : List AV} {us' : List SV} {r : SV} {ex : Fr} (hcl : Cl g f us' [] r ex) (hcal : calleeS (rd env c) = some (f, pa, qa)) (hav : pa ++ args.toList.map (rd env) ++ qa = argv) (hx : toAVs fr (treeArgs (handL g f 0 argv) argv) = some xs) (hh : dedup [] (handRefs (handL g f 0 argv) argv) = []) (hm : mixArgs (idxσ []) (handL g f 0 argv) argv xs = us')
    (hr : flatS r = true) : OpR g d i env fr (.call ⟨.value c, args, tys⟩) r fr [] := .call hcl hcal hav hx hh hm (by unfold callRes; rw [hr])
/-- A call whose answer is told by trees. -/
theorem OpR.callN {c : Operand} {args : Array Operand} {tys : Array TypeId} {f : Nat} {pa qa argv : List SV} {xs : List AV} {us' : List SV} {r : SV} (hcl : Cl g f us' [] r []) (hcal : calleeS (rd env c) = some (f, pa, qa)) (hav : pa ++ args.toList.map (rd env) ++ qa = argv) (hx : toAVs fr (treeArgs (handL g f 0 argv) argv) = some xs) (hh : dedup [] (handRefs (handL g f 0 argv) argv) = []) (hm : mixArgs (idxσ []) (handL g f 0 argv) argv xs = us')
    (hn : r.refs = []) (hr : rchs fr (treeArgs (handL g f 0 argv) argv) = []) : OpR g d i env fr (.call ⟨.value c, args, tys⟩) r fr [] := .call hcl hcal hav hx hh hm (by
  unfold callRes
  rw [hr]
  cases flatS r with
  | true => rfl
  | false =>
    cases drOf d i with
    | false => simp only [SV.sub_no r hn]; simp [freeze]
    | true => simp only [hn])
theorem OpR.ixt {t e sz : Nat} {x y : Operand} {k : IntKind} {q : Nat} {es : List (List AV)} {c : AV} {cs : List AV} (he : elemT g.P t = some (e, sz)) (hx : rd env x = .tc es) (hi : rd env y = .t (.int k (q : Int))) (hc : es[q]? = some (c :: cs)) (hz : Nat.beq sz (cs.length + 1) = true) : OpR g d i env fr (.indexAddr t x y) (.t (.tp (c :: cs))) fr [] := .p rfl rfl (by
  have h := elemAt_of (sz := sz) (es := es) (m := (q : Int)) (by omega) (by rw [Int.toNat_natCast]; exact hc) hz
  unfold evP indexAddrS; simp only [he, hx, hi, h])
/-- From the k-th element on. -/
theorem OpR.sll {t e sz k : Nat} {x h : Operand} {kd : IntKind} {es vs : List (List AV)} (he : elemT g.P t = some (e, sz)) (hx : rd env x = .t (.arr es)) (hi : rd env h = .t (.int kd (k : Int))) (hn : k ≤ es.length) (hz : okSz sz es = true) (hv : es.drop k = vs) : OpR g d i env fr (.slice t x (some h) none none) (.t (.arr vs)) fr [] := .p rfl rfl (by
  subst hv
  have h1 : (decide (0 ≤ (k : Int)) && Nat.ble (Int.toNat (k : Int)) es.length) = true := by simp; omega
  unfold evP sliceS
  simp only [Option.map_none, Option.map_some, hx, hi, he, treeSl, hz]
  unfold cutS boundS
  simp only [boundS, h1]
  simp)
section
variable {α : Type} {x0 x1 x2 x3 x4 x5 x6 x7 x8 x9 x10 x11 x12 x13 : α}
theorem ln0 : ([] : List α).length = 0 := rfl
theorem ln1 : [x0].length = 1 := rfl
theorem ln2 : [x0, x1].length = 2 := rfl
theorem ln3 : [x0, x1, x2].length = 3 := rfl
theorem ln4 : [x0, x1, x2, x3].length = 4 := rfl
theorem ln5 : [x0, x1, x2, x3, x4].length = 5 := rfl
theorem ln6 : [x0, x1, x2, x3, x4, x5].length = 6 := rfl
theorem ln7 : [x0, x1, x2, x3, x4, x5, x6].length = 7 := rfl
theorem ln8 : [x0, x1, x2, x3, x4, x5, x6, x7].length = 8 := rfl
theorem ln9 : [x0, x1, x2, x3, x4, x5, x6, x7, x8].length = 9 := rfl
theorem ln10 : [x0, x1, x2, x3, x4, x5, x6, x7, x8, x9].length = 10 := rfl
theorem ln11 : [x0, x1, x2, x3, x4, x5, x6, x7, x8, x9, x10].length = 11 := rfl
theorem ln12 : [x0, x1, x2, x3, x4, x5, x6, x7, x8, x9, x10, x11].length = 12 := rfl
theorem ln13 : [x0, x1, x2, x3, x4, x5, x6, x7, x8, x9, x10, x11, x12].length = 13 := rfl
theorem ln14 : [x0, x1, x2, x3, x4, x5, x6, x7, x8, x9, x10, x11, x12, x13].length = 14 := rfl
end
/-- A list in normal form: told element by element. -/
inductive LEq {α : Type} : List α → List α → Prop where
  | nil : LEq [] []
  | cons {a b : α} {us bs : List α} (h : a = b) (ht : LEq us bs) : LEq (a :: us) (b :: bs)
theorem LEq.eq {α : Type} {us bs : List α} (h : LEq us bs) : us = bs := by
  induction h with
  | nil => rfl
  | cons h _ ih => rw [h, ih]
/-- Trees alone. -/
inductive Prs : List SV → List AV → Prop where
  | nil : Prs [] []
  | cons {x : AV} {us : List SV} {bs : List AV} (ht : Prs us bs) : Prs (.t x :: us) (x :: bs)
theorem Prs.eq {us : List SV} {bs : List AV} (h : Prs us bs) : us = bs.map .t := by
  induction h with
  | nil => rfl
  | cons _ ih => rw [ih]; rfl
theorem pursN_map (xs : List AV) : pursN (xs.map .t) = some xs := by
  induction xs with
  | nil => rfl
  | cons x xs ih => rw [List.map_cons]; unfold pursN; rw [ih]
theorem purs_map (xs : List AV) : purs (xs.map .t) = some xs := by
  induction xs with
  | nil => rfl
  | cons x xs ih => rw [List.map_cons]; unfold purs; rw [ih]
theorem aggS_map (xs : List AV) : aggS (xs.map .t) = .t (.agg xs) := by unfold aggS; rw [purs_map]
theorem putS_app (xs : List SV) : ∀ (pre old : List SV), old.length = xs.length → putS (pre ++ old) pre.length xs = pre ++ xs := by
  induction xs with
  | nil => intro pre old h; obtain rfl := List.length_eq_zero_iff.1 h; rfl
  | cons x xs ih =>
    intro pre old h
    cases old with
    | nil => simp at h
    | cons o old =>
      unfold putS
      have e : (pre ++ o :: old).set pre.length x = (pre ++ [x]) ++ old := by simp
      have := ih (pre ++ [x]) old (by simpa using h)
      rw [e]
      simpa using this
theorem putS_all {cs xs : List SV} (h : cs.length = xs.length) : putS cs 0 xs = xs := putS_app xs [] cs h
theorem OpR.al {T n : Nat} {zs cs : List SV} {fr' : Fr} (hs : ∀ C : CallF, step g C d i env fr (.alloc T) = evW g C (drOf d i) env fr (.alloc T)) (hz : zeroT g.P T = some zs) (hc : LEq zs cs) (hn : fr.length = n) (hf : LEq (fr ++ [.box false T cs]) fr') : OpR g d i env fr (.alloc T) (.lp n 0) fr' [] := .r fun C => by
  rw [hs]
  subst hn
  obtain rfl := hf.eq
  obtain rfl := hc.eq
  unfold evW
  simp only [hz]
theorem OpR.bxn {T n : Nat} {y : Operand} {s : SV} {cs ds : List SV} {fr' : Fr} (hs : ∀ C : CallF, step g C d i env fr (.box T y) = evW g C (drOf d i) env fr (.box T y)) (hy : rd env y = s) (hc : cellsS s = cs) (ho : cs.all oneS = true) (hd : LEq cs ds) (hn : fr.length = n) (hf : LEq (fr ++ [.box false T ds]) fr') : OpR g d i env fr (.box T y) (.lp n 0) fr' [] := .r fun C => by
  rw [hs]
  subst hn hc hy
  obtain rfl := hf.eq
  obtain rfl := hd.eq
  unfold evW
  simp only [ho]
/-- A whole struct of trees, boxed. -/
theorem OpR.bxt {T n : Nat} {y : Operand} {xs : List AV} {fr' : Fr} (hs : ∀ C : CallF, step g C d i env fr (.box T y) = evW g C (drOf d i) env fr (.box T y)) (hy : rd env y = .t (.agg xs)) (ho : (xs.map SV.t).all oneS = true) (hn : fr.length = n) (hf : LEq (fr ++ [.box false T (xs.map .t)]) fr') : OpR g d i env fr (.box T y) (.lp n 0) fr' [] := .r fun C => by
  rw [hs]
  subst hn
  obtain rfl := hf.eq
  unfold evW
  simp only [hy]
  have e : cellsS (.t (.agg xs)) = xs.map .t := rfl
  simp only [e, ho]
/-- A whole struct of trees, stored into a variable. -/
theorem OpR.stw {t n r T : Nat} {a y : Operand} {ag : Bool} {xs : List AV} {cs : List SV} {fr' : Fr} (hs : ∀ C : CallF, step g C d i env fr (.store t a y) = evT g C env fr (.store t a y)) (ht : sizeT g.P t = some (ag, n)) (ha : rd env a = .lp r 0) (hy : rd env y = .t (.agg xs)) (ho : (xs.map SV.t).all oneS = true) (hl : xs.length = n) (hb : fr[r]? = some (.box false T cs)) (hc : cs.length = n) (hf : LEq (fr.set r (.box false T (xs.map .t))) fr') : OpR g d i env fr (.store t a y) .dead fr' [] := .r fun C => by
  rw [hs]
  obtain rfl := hf.eq
  subst hl
  have e : cellsS (.t (.agg xs)) = xs.map .t := rfl
  have h1 : Nat.beq (xs.map SV.t).length xs.length = true := by simp
  have h2 : Nat.ble (0 + xs.length) cs.length = true := by simp; omega
  have h3 : putS cs 0 (xs.map .t) = xs.map .t := putS_all (by simpa using hc)
  unfold evT
  simp only [isW]
  unfold evW
  simp only
  unfold storeE
  simp only [ht, ha, hy, e, ho, h1, Bool.and_self, hb, h2, h3]
/-- Stored into a variable. -/
theorem OpR.sto {t n r j T : Nat} {a y : Operand} {ag : Bool} {s : SV} {cs ds vs : List SV} {fr' : Fr} (hs : ∀ C : CallF, step g C d i env fr (.store t a y) = evT g C env fr (.store t a y)) (ht : sizeT g.P t = some (ag, n)) (ha : rd env a = .lp r j) (hy : rd env y = s) (hv : cellsS s = vs) (ho : (vs.all oneS && Nat.beq vs.length n) = true) (hb : fr[r]? = some (.box false T cs)) (hc : Nat.ble (j + n) cs.length = true) (hd : LEq (putS cs j vs) ds) (hf : LEq (fr.set r (.box false T ds)) fr') : OpR g d i env fr (.store t a y) .dead fr' [] := .r fun C => by
  rw [hs]
  obtain rfl := hf.eq
  obtain rfl := hd.eq
  subst hv hy
  unfold evT
  simp only [isW]
  unfold evW
  simp only
  unfold storeE
  simp only [ht, ha, ho, hb, hc]
/-- A whole struct of trees, read from a variable. -/
theorem OpR.ldw {t n r T : Nat} {y : Operand} {ro : Bool} {xs : List AV} (ht : sizeT g.P t = some (true, n)) (hy : rd env y = .lp r 0) (hb : fr[r]? = some (.box ro T (List.map SV.t xs))) (hl : xs.length = n) : OpR g d i env fr (.load t y) (.t (.agg xs)) fr [] := .p rfl rfl (by
  subst hl
  unfold evP loadS
  have h1 : Nat.ble (0 + xs.length) (xs.map SV.t).length = true := by simp
  have h2 : ((xs.map SV.t).drop 0).take xs.length = xs.map .t := by rw [List.drop_zero]; exact List.take_of_length_le (by simp)
  simp only [ht, hy, hb, h1, h2, aggS_map])
/-- A struct read from a variable: trees alone. -/
theorem OpR.ldt {t n r j T : Nat} {y : Operand} {ro : Bool} {cs vs : List SV} {xs : List AV} (ht : sizeT g.P t = some (true, n)) (hy : rd env y = .lp r j) (hb : fr[r]? = some (.box ro T cs)) (hl : Nat.ble (j + n) cs.length = true) (hv : (cs.drop j).take n = vs) (hx : Prs vs xs) : OpR g d i env fr (.load t y) (.t (.agg xs)) fr [] := .p rfl rfl (by
  unfold evP loadS
  simp only [ht, hy, hb, hl, hv, hx.eq, aggS_map])
/-- A struct read from a variable. -/
theorem OpR.lda {t n r j T : Nat} {y : Operand} {ro : Bool} {cs vs : List SV} {v : SV} (ht : sizeT g.P t = some (true, n)) (hy : rd env y = .lp r j) (hb : fr[r]? = some (.box ro T cs)) (hl : Nat.ble (j + n) cs.length = true) (hv : LEq ((cs.drop j).take n) vs) (hx : aggS vs = v) : OpR g d i env fr (.load t y) v fr [] := .p rfl rfl (by
  unfold evP loadS
  simp only [ht, hy, hb, hl, hv.eq, hx])
end
end Go.Proofs.YtgbfedgghjcdcaaGreatDoor

/- The tree evaluator, 26: rules for own rows whose elements are told by variables; contracts of the library's functions. No condition. -/
namespace Go.Proofs.YtgbfedgghjcdcaaGreatDoor
set_option linter.unusedSimpArgs false
set_option linter.unusedVariables false
set_option linter.unusedSectionVars false
open Go.RowKit

/-- Own blocks behind an append: rows and boxes of trees stay. -/
inductive KFr (ks : List Nat) : Fr → Fr → Prop where
  | nil : KFr ks [] []
  | row {ro tch : Bool} {sz : Nat} {es : List (List AV)} {fr fr' : Fr} (h : KFr ks fr fr') : KFr ks (.row ro tch sz es :: fr) (.row ro tch sz es :: fr')
  | boxt {ro : Bool} {T : TypeId} {xs : List AV} {fr fr' : Fr} (h : KFr ks fr fr') : KFr ks (.box ro T (List.map SV.t xs) :: fr) (.box ro T (List.map SV.t xs) :: fr')
  | box {ro : Bool} {T : TypeId} {cs ds : List SV} {fr fr' : Fr} (hd : LEq (SV.subL (killσ ks) cs) ds) (h : KFr ks fr fr') : KFr ks (.box ro T cs :: fr) (.box ro T ds :: fr')
theorem subL_trees {σ : Nat → Option Nat} (xs : List AV) : SV.subL σ (xs.map .t) = xs.map .t := by
  induction xs with
  | nil => rfl
  | cons x xs ih => rw [List.map_cons, SV.subL, SV.sub, ih]
theorem KFr.eq {ks : List Nat} {fr fr' : Fr} (h : KFr ks fr fr') : fr.map (Lb.sub (killσ ks)) = fr' := by
  induction h with
  | nil => rfl
  | row _ ih => rw [List.map_cons, ih]; rfl
  | boxt _ ih => rw [List.map_cons, ih, Lb.sub, subL_trees]
  | box hd _ ih => rw [List.map_cons, ih, Lb.sub, hd.eq]
section
variable {g : Cfg} {d : Option (List Nat)} {i : Nat} {env : Env} {fr : Fr}
/-- An empty slice written out. -/
theorem OpR.bs0 {t T sz by_ n : Nat} {fr' : Fr} (hs : ∀ C : CallF, step g C d i env fr (.buildSlice t 0 #[]) = evW g C (drOf d i) env fr (.buildSlice t 0 #[])) (hr : rowT g.P t = some (T, sz, by_)) (hn : fr.length = n) (hf : LEq (fr ++ [.row false false sz []]) fr') : OpR g d i env fr (.buildSlice t 0 #[]) (.ls n) fr' [] := .r fun C => by
  rw [hs]
  subst hn
  obtain rfl := hf.eq
  unfold evW
  simp only [hr]
/-- Elements appended to an own row. -/
theorem OpR.apr {t T r sz by_ : Nat} {a y : Operand} {args : Array Operand} {tys : Array TypeId} {s : SV} {es news vs : List (List AV)} {tch : Bool} {fr1 fr' : Fr} (hs : ∀ C : CallF, step g C d i env fr (.call ⟨.builtin .append, args, tys⟩) = evW g C (drOf d i) env fr (.call ⟨.builtin .append, args, tys⟩)) (ha : args.toList = [a, y]) (ht : tys.toList = [t, t]) (hr : rowT g.P t = some (T, sz, by_)) (hx : rd env a = .ls r) (hy : rd env y = s) (hn : slOf fr s = some news) (hb : fr[r]? = some (.row false tch sz es))
    (hok : newsOk sz news = true) (hlen : lenOk (es.length + news.length) by_ = true) (hv : es ++ news = vs) (hk : KFr [r] fr fr1) (hf : LEq (fr1.set r (.row false true sz vs)) fr') : OpR g d i env fr (.call ⟨.builtin .append, args, tys⟩) (.ls r) fr' [r] := .r fun C => by
  rw [hs]
  subst hv hy
  obtain rfl := hf.eq
  obtain rfl := hk.eq
  have h1 : (Nat.beq sz sz && lenOk (es.length + news.length) by_) = true := by rw [hlen]; simp
  have h2 : Nat.beq t t = true := by simp
  unfold evW
  simp only [ha, ht, h2]
  unfold appendE
  simp only [hr, hn, hok, hx, hb, h1]
  rfl
/-- A store into an own row of one cell an element. -/
theorem OpR.sti {t n r q : Nat} {a y : Operand} {tch : Bool} {es vs : List (List AV)} {cs : List AV} {c : AV} {ag : Bool} {fr' : Fr} (hs : ∀ C : CallF, step g C d i env fr (.store t a y) = evT g C env fr (.store t a y)) (ht : sizeT g.P t = some (ag, n)) (ha : rd env a = .le r 1 q 0) (hy : rd env y = .t c) (hone : oneS (.t c) = true) (hn : Nat.beq 1 n = true) (hb : fr[r]? = some (.row false tch 1 es)) (hk : es[q]? = some cs) (hj : cs.length = 1) (hv : es.set q [c] = vs) (hf : LEq (fr.set r (.row false tch 1 vs)) fr') : OpR g d i env fr (.store t a y) .dead fr' [] := by
  obtain rfl := hf.eq
  subst hv
  have e : cs.set 0 c = [c] := by
    match cs, hj with
    | [x], _ => rfl
  have := OpR.str (effOk := hs) ht ha hy hone hn hb hk (by rw [hj]; rfl)
  rw [e] at this
  exact this
/-- A slice written out, whose elements reach own blocks. -/
theorem OpR.bsf {t len : Nat} {parts : Array (Nat × Operand)} {ts : List Nat} {xs : List AV} {x : SV} {fr1 : Fr} (hs : ∀ C : CallF, step g C d i env fr (.buildSlice t len parts) = evT g C env fr (.buildSlice t len parts)) (hw : isW (.buildSlice t len parts) = false) (h0 : evP g.P fr env (.buildSlice t len parts) = none) (ht : tmpsL (parts.toList.map (·.2)) = ts) (hx : toAVs fr (ts.map fun t => un (env t)) = some xs) (hf : LEq (freeze fr (rchs fr (ts.map fun t => un (env t)))) fr1) (hp : evP g.P fr1 (treeEnv env ts xs) (.buildSlice t len parts) = some x) : OpR g d i env fr (.buildSlice t len parts) x fr1 [] := .r fun C => by
  rw [hs]
  subst ht
  obtain rfl := hf.eq
  unfold evT
  simp only [hw, h0]
  unfold evF
  simp only [hx]
  rw [hp]
  rfl
/-- Texts joined. -/
theorem OpR.ads {xt yt : TypeId} {x y : Operand} {s u : ByteArray} (hx : rd env x = .t (.str s)) (hy : rd env y = .t (.str u)) (h : s.size + u.size ≤ 9223372036854775807) : OpR g d i env fr (.binOp .add xt x y yt) (.t (.str (s ++ u))) fr [] :=
  .bin hx hy (by unfold binS; simp only [strS, if_pos h])
/-- A struct read from an own row. -/
theorem OpR.lds {t n r sz q j : Nat} {y : Operand} {ro tch : Bool} {es : List (List AV)} {cs vs : List AV} (ht : sizeT g.P t = some (true, n)) (hy : rd env y = .le r sz q j) (hb : fr[r]? = some (.row ro tch sz es)) (hk : es[q]? = some cs) (hl : Nat.ble (j + n) cs.length = true) (hv : LEq ((cs.drop j).take n) vs) : OpR g d i env fr (.load t y) (.t (.agg vs)) fr [] := .p rfl rfl (by
  obtain rfl := hv.eq
  have h2 : Nat.beq sz sz = true := by simp
  unfold evP loadS
  simp only [ht, hy, hb, h2, hk, hl])
/-- One cell read from an own row. -/
theorem OpR.ldi {t n r sz q : Nat} {y : Operand} {ro tch : Bool} {es : List (List AV)} {c : AV} (ht : sizeT g.P t = some (false, n)) (hy : rd env y = .le r sz q 0) (hb : fr[r]? = some (.row ro tch sz es)) (hk : es[q]? = some [c]) : OpR g d i env fr (.load t y) (.t c) fr [] := .ldr ht hy hb hk rfl
end
/-- Blocks that an answer brings. -/
inductive XFr (σ : Nat → Option Nat) : Fr → Fr → Prop where
  | nil : XFr σ [] []
  | row {ro tch : Bool} {sz : Nat} {es : List (List AV)} {fr fr' : Fr} (h : XFr σ fr fr') : XFr σ (.row ro tch sz es :: fr) (.row ro false sz es :: fr')
  | boxt {ro : Bool} {T : TypeId} {xs : List AV} {fr fr' : Fr} (h : XFr σ fr fr') : XFr σ (.box ro T (List.map SV.t xs) :: fr) (.box ro T (List.map SV.t xs) :: fr')
  | box {ro : Bool} {T : TypeId} {cs ds : List SV} {fr fr' : Fr} (hd : LEq (SV.subL σ cs) ds) (h : XFr σ fr fr') : XFr σ (.box ro T cs :: fr) (.box ro T ds :: fr')
theorem XFr.eq {σ : Nat → Option Nat} {fr fr' : Fr} (h : XFr σ fr fr') : fr.map (fun b => unTch (b.sub σ)) = fr' := by
  induction h with
  | nil => rfl
  | row _ ih => rw [List.map_cons, ih]; rfl
  | boxt _ ih => rw [List.map_cons, ih, Lb.sub, subL_trees]; rfl
  | box hd _ ih => rw [List.map_cons, ih, Lb.sub, hd.eq]; rfl
section
variable {g : Cfg} {d : Option (List Nat)} {i : Nat} {env : Env} {fr : Fr}
/-- A call whose answer names blocks that it made. -/
theorem OpR.callX {c : Operand} {args : Array Operand} {tys : Array TypeId} {f n : Nat} {pa qa argv : List SV} {xs : List AV} {us' : List SV} {r v : SV} {ex ex' fr' : Fr} (hcl : Cl g f us' [] r ex) (hcal : calleeS (rd env c) = some (f, pa, qa)) (hav : pa ++ args.toList.map (rd env) ++ qa = argv) (hx : toAVs fr (treeArgs (handL g f 0 argv) argv) = some xs) (hh : dedup [] (handRefs (handL g f 0 argv) argv) = []) (hm : mixArgs (idxσ []) (handL g f 0 argv) argv xs = us')
    (hr : flatS r = false) (hd : drOf d i = false) (hq : rchs fr (treeArgs (handL g f 0 argv) argv) = []) (hn : fr.length = n) (hv : r.sub (backσ [] n) = v) (he : XFr (backσ [] n) ex ex') (hf : LEq (fr ++ ex') fr') : OpR g d i env fr (.call ⟨.value c, args, tys⟩) v fr' [] := .call hcl hcal hav hx hh hm (by
  subst hv hn
  obtain rfl := hf.eq
  obtain rfl := he.eq
  unfold callRes
  rw [hr, hd, hq]
  rfl)
/-- A call to which own blocks are handed over, the blocks behind it told one by one. -/
theorem OpR.callQ {c : Operand} {args : Array Operand} {tys : Array TypeId} {f h0 : Nat} {ht : List Nat} (hs : List Nat) {pa qa argv : List SV} {xs : List AV} {us' : List SV} {r x : SV} {bs bs' fr' fr2 : Fr} {ks : List Nat} (hcl : Cl g f us' bs' r fr') (hdr : drOf d i = false) (hcal : calleeS (rd env c) = some (f, pa, qa)) (hav : pa ++ args.toList.map (rd env) ++ qa = argv) (hx : toAVs fr (treeArgs (handL g f 0 argv) argv) = some xs) (hh : dedup [] (handRefs (handL g f 0 argv) argv) = h0 :: ht)
    (hs0 : close fr 4 (h0 :: ht) = hs) (hf : rchs fr (treeArgs (handL g f 0 argv) argv) = []) (hg : getAll fr hs = some bs) (hc : closedFr hs bs = true) (hm : mixArgs (idxσ hs) (handL g f 0 argv) argv xs = us') (hb : bs.map (fun b => unTch (b.sub (idxσ hs))) = bs') (hk : kindOk hs fr' fr = true) (hv : r.sub (backσ hs fr.length) = x) (hl : LEq (back hs fr fr') fr2) (hq : touched hs fr' = ks) : OpR g d i env fr (.call ⟨.value c, args, tys⟩) x fr2 ks := OpR.callP hs hcl hdr hcal hav hx hh hs0 hf hg hc hm hb hk (by rw [hv, hl.eq, hq])
end
section
variable {g : Cfg}
/-- A function that is told by a contract. -/
theorem Cl.ext {f : Nat} {xs : List AV} {args : List SV} {r : SV} {ex : Fr} (hok : g.ok f = false) (ha : args = xs.map .t) (he : g.ext f xs = some (r, ex)) : Cl g f args [] r ex := by
  subst ha
  refine ⟨1, ?_⟩
  unfold callN
  have e : pursN (xs.map .t) = some xs := pursN_map xs
  simp only [hok, e]
  exact he
end
end Go.Proofs.YtgbfedgghjcdcaaGreatDoor

/- The tree evaluator, 25: arguments as trees: what the claim's form reads as data reads as a tree of its type's shape. Conditions: types of ints, truth values, texts, slices and structs. -/
namespace Go.Proofs.YtgbfedgghjcdcaaGreatDoor
set_option linter.unusedSimpArgs false
set_option linter.unusedVariables false
set_option linter.unusedSectionVars false
open Go.RowKit Go.ChangeShapes Go.WideShapes Go.Deep

/-- Fields that lie one behind the other. -/
def layF (P : Program) : Nat → List Field → Option Nat
  | off, [] => some off
  | off, f :: fs => match Nat.beq f.offset off with
    | true => layF P (off + P.cellsOf f.type) fs
    | false => none
def tyOk (P : Program) : Nat → TypeId → Bool
  | 0, _ => false
  | n + 1, t => match P.underlying t with
    | some (.int _) => true
    | some .bool => true
    | some .string => true
    | some (.slice e) => Nat.ble 1 (P.cellsOf e) && (Nat.ble 8 (P.bytesOf e) && tyOk P n e)
    | some (.struct fs) => (match layF P 0 fs.toList with
      | some k => Nat.beq k (P.cellsOf t)
      | none => false) && fs.toList.all fun f => tyOk P n f.type
    | _ => false
/-- The cells of the fields, one behind the other. -/
def ShpF (R : TypeId → List AV → Prop) : List Field → List AV → Prop
  | [], xs => xs = []
  | f :: fs, xs => ∃ ys zs, xs = ys ++ zs ∧ R f.type ys ∧ ShpF R fs zs
/-- The trees have the type's shape. -/
def Shp (P : Program) : Nat → TypeId → List AV → Prop
  | 0, _, _ => False
  | n + 1, t, xs => match P.underlying t with
    | some (.int k) => ∃ m, xs = [.int k m] ∧ (Lit.int k m).wf = true
    | some .bool => ∃ b, xs = [.bool b]
    | some .string => ∃ s, xs = [.str s] ∧ s.size ≤ maxLen
    | some (.slice e) => ∃ es, xs = [.arr es] ∧ es.length ≤ 17592186044416 ∧ ∀ cs ∈ es, Shp P n e cs
    | some (.struct fs) => ShpF (Shp P n) fs.toList xs
    | _ => False
def Sml (l : List Nat) : Prop := ∀ n ∈ l, n ≤ reachBytes
theorem Sml.app {a b : List Nat} (h : Sml (a ++ b)) : Sml a ∧ Sml b := ⟨fun n hn => h n (by simp [hn]), fun n hn => h n (by simp [hn])⟩
section
variable {H : Type} {enc : TypeId × Value → H} {P : Program} {w : World}
theorem sml_all {e : TypeId} : ∀ {l : List (DataW H)}, Sml (DataW.weightsAll P e l) → ∀ d ∈ l, Sml (d.weights P e)
  | [], _, d, hd => by cases hd
  | x :: l, h, d, hd => by
    have h' := Sml.app h
    rcases List.mem_cons.1 hd with rfl | hd
    · exact h'.1
    · exact sml_all h'.2 d hd
theorem sml_each : ∀ {ts : List TypeId} {l : List (DataW H)}, Sml (DataW.weightsEach P ts l) → ∀ (i : Nat) (t : TypeId) (d : DataW H), ts[i]? = some t → l[i]? = some d → Sml (d.weights P t)
  | [], _, _, _, _, _, ht, _ => by simp at ht
  | _ :: _, [], _, _, _, _, _, hd => by simp at hd
  | t :: ts, x :: l, h, i, u, d, ht, hd => by
    have h' := Sml.app h
    cases i with
    | zero => simp at ht hd; subst ht hd; exact h'.1
    | succ i => exact sml_each h'.2 i u d (by simpa using ht) (by simpa using hd)
/-- The cells read as the trees. -/
def Vs (w : World) (xs : List AV) (cs : List Value) : Prop := xs.length = cs.length ∧ ∀ (j : Nat) (x : AV) (u : Value), xs[j]? = some x → cs[j]? = some u → VR (fun _ => True) w x u
theorem Vs.one {x : AV} {u : Value} (h : VR (fun _ => True) w x u) : Vs w [x] [u] := ⟨rfl, fun j y v hy hv => by
  cases j with
  | zero => simp at hy hv; subst hy hv; exact h
  | succ j => simp at hy⟩
theorem Vs.app {xs ys : List AV} {cs ds : List Value} (h1 : Vs w xs cs) (h2 : Vs w ys ds) : Vs w (xs ++ ys) (cs ++ ds) := by
  refine ⟨by simp [h1.1, h2.1], fun j x u hx hu => ?_⟩
  rcases Nat.lt_or_ge j xs.length with hj | hj
  · rw [List.getElem?_append_left hj] at hx
    rw [List.getElem?_append_left (by rw [← h1.1]; exact hj)] at hu
    exact h1.2 j x u hx hu
  · rw [List.getElem?_append_right hj] at hx
    rw [List.getElem?_append_right (by rw [← h1.1]; exact hj), ← h1.1] at hu
    exact h2.2 _ x u hx hu
theorem shp_fields {R : TypeId → List AV → Prop} {cs : List Value} {tot : Nat} (htot : cs.length = tot) : ∀ (fs : List Field) (off : Nat), off ≤ tot → layF P off fs = some tot →
    (∀ f ∈ fs, ∀ c, (cs.drop f.offset).take (P.cellsOf f.type) = c → c.length = P.cellsOf f.type → ∃ ys, R f.type ys ∧ Vs w ys c) → ∃ xs, ShpF R fs xs ∧ Vs w xs (cs.drop off)
  | [], off, ho, hl, _ => by
    unfold layF at hl
    cases hl
    refine ⟨[], rfl, ?_, ?_⟩
    · simp [htot]
    · intro j x u hx; simp at hx
  | f :: fs, off, ho, hl, h => by
    unfold layF at hl
    split at hl
    · rename_i hoff
      have hoff : f.offset = off := by simpa using hoff
      have hmono : ∀ (fs : List Field) (o : Nat), layF P o fs = some tot → o ≤ tot := by
        intro fs
        induction fs with
        | nil => intro o h; unfold layF at h; cases h; exact Nat.le_refl _
        | cons g gs ih =>
          intro o h
          unfold layF at h
          split at h
          · have := ih _ h; omega
          · cases h
      have h1 := hmono _ _ hl
      obtain ⟨zs, hz, hzv⟩ := shp_fields htot fs (off + P.cellsOf f.type) h1 hl fun g hg => h g (List.mem_cons_of_mem _ hg)
      obtain ⟨ys, hy, hyv⟩ := h f List.mem_cons_self _ rfl (by rw [List.length_take, List.length_drop, hoff]; omega)
      refine ⟨ys ++ zs, ⟨ys, zs, rfl, hy, hz⟩, ?_⟩
      have := hyv.app hzv
      rw [hoff] at this
      have e : (cs.drop off).take (P.cellsOf f.type) ++ cs.drop (off + P.cellsOf f.type) = cs.drop off := by
        rw [← List.drop_drop, List.take_append_drop]
      rwa [e] at this
    · cases hl
/-- What is read as data reads as a tree. -/
theorem tree_of_trod : ∀ (n : Nat) (t : TypeId), tyOk P n t = true → ∀ (fuel : Nat) (cs : List Value) (d : DataW H) (ps : List MemPlace), DataW.trod enc P w 0 (fun _ => true) true fuel t cs = some (d, ps) → Sml (d.weights P t) → ∃ xs, Shp P n t xs ∧ Vs w xs cs
  | 0, t, h => by unfold tyOk at h; cases h
  | n + 1, t, h => by
    intro fuel cs d ps ht hw
    unfold tyOk at h
    unfold Shp
    split at h
    · rename_i k hu
      try simp only [hu]
      obtain ⟨m, rfl, _, hwf⟩ := DataW.trod_int hu ht
      exact ⟨_, ⟨m, rfl, hwf⟩, .one (.int k m)⟩
    · rename_i hu
      try simp only [hu]
      obtain ⟨b, rfl, _⟩ := DataW.trod_bool hu ht
      exact ⟨_, ⟨b, rfl⟩, .one (.bool b)⟩
    · rename_i hu
      try simp only [hu]
      obtain ⟨s, rfl, _, hs⟩ := DataW.trod_string hu ht
      exact ⟨_, ⟨s, rfl, hs⟩, .one (.str s)⟩
    · rename_i e hu
      try simp only [hu]
      rw [Bool.and_eq_true, Bool.and_eq_true] at h
      obtain ⟨hpos, hby, hty⟩ := h
      have hpos : 1 ≤ P.cellsOf e := by simpa using hpos
      have hby : 8 ≤ P.bytesOf e := by simpa using hby
      rcases open_slice hu ht with ⟨rfl, _⟩ | ⟨a, len, cap, m, k, D, Pl, rfl, _, hl, _, hm, hx, hi⟩
      · exact ⟨_, ⟨[], rfl, by simp, fun cs hcs => by cases hcs⟩, .one (.arr0 none 0)⟩
      · simp only [if_true] at hm
        subst hm
        simp only [Prod.mk.injEq] at hx
        rw [hx.1] at hw; clear hx ht
        rw [DataW.weights] at hw; simp only [hu] at hw
        have hcap : m * 8 ≤ reachBytes := by
          have := hw _ (List.mem_cons_self)
          simp only [List.length_map, List.length_range] at this
          have h2 : m * 8 ≤ m * P.bytesOf e := Nat.mul_le_mul_left _ hby
          have h3 : len + (m - len) = m := by omega
          rw [h3] at this
          omega
        have hwe : ∀ i, i < len → Sml ((D i).weights P e) := by
          intro i hi'
          have h2 : Sml (DataW.weightsAll P e ((List.range len).map D)) := fun n hn => hw n (List.mem_cons_of_mem _ (List.mem_append_left _ hn))
          exact sml_all h2 _ (List.mem_map_of_mem (List.mem_range.2 hi'))
        have hev : ∀ i, i < len → ∃ z : List Value × List AV, w.cells? 0 (a.add (i * P.cellsOf e)) (P.cellsOf e) = some z.1 ∧ Shp P n e z.2 ∧ Vs w z.2 z.1 := by
          intro i hi'
          obtain ⟨cs', hc, ht'⟩ := hi i (by omega)
          obtain ⟨ys, h1, h2⟩ := tree_of_trod n e hty _ _ _ _ ht' (hwe i hi')
          exact ⟨(cs', ys), hc, h1, h2⟩
        obtain ⟨f, hf⟩ := choose_lt hev
        have hcell : ∀ i, i < len → (f i).1.length = P.cellsOf e ∧ ∀ (j : Nat), j < P.cellsOf e → w.cell? ((a.add (i * P.cellsOf e)).add j) = some ((f i).1.getD j undef) := by
          intro i hi'
          obtain ⟨_, hcl, hat⟩ := World.cells?_some (hf i hi').1
          refine ⟨hcl, fun j hj => ?_⟩
          rw [hat j hj, List.getD_eq_getElem?_getD, List.getElem?_eq_getElem (by omega)]
          rfl
        have hlen : ((List.range len).map fun i => (f i).2).length = len := by simp
        have hes : ∀ (k : Nat) (cs : List AV), ((List.range len).map fun i => (f i).2)[k]? = some cs → k < len ∧ cs = (f k).2 := by
          intro k cs hk
          have hkl : k < len := by have := lt_of_get hk; simpa using this
          rw [List.getElem?_map, List.getElem?_range hkl] at hk
          exact ⟨hkl, by simpa using hk.symm⟩
        refine ⟨[.arr ((List.range len).map fun i => (f i).2)], ⟨_, rfl, ?_, ?_⟩, .one ?_⟩
        · rw [hlen]; unfold reachBytes at hcap; omega
        · intro cs hcs
          obtain ⟨i, hi', rfl⟩ := List.mem_map.1 hcs
          exact (hf i (List.mem_range.1 hi')).2.1
        · rcases Nat.eq_zero_or_pos len with h0 | h0
          · subst h0; exact .arr0 _ _
          · have hc0 := (hcell 0 h0).2 0 (by omega)
            obtain ⟨b, o, sp⟩ := a
            have hs : sp = none := by simpa [Addr.add] using World.cell?_spot hc0
            subst hs
            have hadd : ∀ i j : Nat, ((⟨b, o, none⟩ : Addr).add i).add j = ⟨b, o + (i + j), none⟩ := by
              intro i j
              unfold Addr.add
              by_cases hi0 : i = 0 <;> by_cases hj0 : j = 0 <;> simp [hi0, hj0, Nat.add_assoc]
            have hb : b < w.heap.size := by
              have := hadd 0 0
              rw [Nat.zero_mul, this] at hc0
              exact World.block_lt_of_cell? w _ hc0
            have := VR.arr (M := fun _ => True) (w := w) b o m (P.cellsOf e) ((List.range len).map fun i => (f i).2) (fun k j => (f k).1.getD j undef) (by intro h; rw [h] at hlen; simp at hlen; omega) (by rw [hlen]; unfold reachBytes at hcap; omega) (by rw [hlen]; exact hl) hb trivial
              (fun k cs hk => by
                obtain ⟨hkl, rfl⟩ := hes k cs hk
                rw [(hf k hkl).2.2.1, (hcell k hkl).1])
              (fun k j hk hj => by
                rw [hlen] at hk
                rw [← hadd]
                exact (hcell k hk).2 j hj)
              (fun k j cs x hk hj => by
                obtain ⟨hkl, rfl⟩ := hes k cs hk
                have hj' : j < (f k).1.length := by rw [← (hf k hkl).2.2.1]; exact lt_of_get hj
                refine (hf k hkl).2.2.2 j x _ hj ?_
                rw [List.getD_eq_getElem?_getD, List.getElem?_eq_getElem hj']
                rfl)
            rw [hlen] at this
            exact this
    · rename_i fs hu
      try simp only [hu]
      rw [Bool.and_eq_true] at h
      obtain ⟨hlay, hall⟩ := h
      obtain ⟨xs, k, _, hx, hcl, hxl, hf⟩ := DataW.trod_struct hu ht
      simp only [Prod.mk.injEq] at hx
      rw [hx.1] at hw
      rw [DataW.weights] at hw; simp only [hu] at hw
      split at hlay
      · rename_i tot htot
        have htot' : tot = P.cellsOf t := by simpa using hlay
        obtain ⟨ys, h1, h2⟩ := shp_fields (w := w) (R := Shp P n) (cs := cs) (tot := tot) (by rw [hcl, htot']) fs.toList 0 (Nat.zero_le _) htot (fun f hfm c hc hcl' => by
          obtain ⟨i, hi, hfi⟩ := List.mem_iff_getElem.1 hfm
          have hfi' : fs[i]? = some f := by
            rw [← hfi]
            simp at hi
            simp [hi]
          have hxi := hf i f hfi'
          have hil : i < xs.length := by rw [hxl]; simpa using hi
          rw [List.getElem?_eq_getElem hil, hc] at hxi
          have hty : tyOk P n f.type = true := List.all_eq_true.1 hall f hfm
          refine tree_of_trod n f.type hty _ _ _ _ hxi ?_
          refine sml_each hw i f.type _ ?_ ?_
          · rw [List.getElem?_map]
            simp [hfi']
          · rw [List.getElem?_map, List.getElem?_eq_getElem hil]
            rfl)
        exact ⟨ys, h1, by simpa using h2⟩
      · cases hlay
    · cases h
end
end Go.Proofs.YtgbfedgghjcdcaaGreatDoor

/- The last step of a claim by the tree evaluator: a contract on trees gives what the row asks. Conditions: the form's own reach. -/
namespace Go.Proofs.YtgbfedgghjcdcaaGreatDoor
set_option linter.unusedSimpArgs false
set_option linter.unusedVariables false
set_option linter.unusedSectionVars false
open Go.RowKit Go.ChangeShapes Go.WideShapes Go.Deep

section
variable {H : Type} {enc : TypeId × Value → H} {P : Program}
theorem post_of_below {f : Func} {s : ChangeSpec} {apart fresh handsOn again : Bool} {W W' : World} {args : Array Value} {v : Value} {ds gs : List (DataW H)} {before pa pv : List MemPlace}
    (hW : DataW.Whole enc P f.params.toList s.vars apart W args.toList ds gs before)
    (hres : ∀ (b : Nat) (sp : Nat → Bool) (hd : Bool), DataW.TrodAll enc P W' b sp hd f.resultTypes.toList (v.resultList f.resultTypes.size) (s.fn H (ds ++ gs)).results [])
    (hargs : ∀ sp : Nat → Bool, (∀ p ∈ before, sp p.block = true) → DataW.TrodAll enc P W' 0 sp true f.params.toList args.toList (s.fn H (ds ++ gs)).args pa)
    (hvars : ∀ sp : Nat → Bool, (∀ p ∈ before, sp p.block = true) → DataW.TrodVars enc P W' sp s.vars (s.fn H (ds ++ gs)).vars pv)
    (hps : before = pa ++ pv) (hb : Below W.heap.size W W')
    (hok : ∀ (j : Nat) (t : TypeId) (r : Value), f.resultTypes[j]? = some t → (v.resultList f.resultTypes.size)[j]? = some r → Value.okWide P W' .any 0 t r) :
    s.post enc P f apart fresh handsOn again W args v W' := by
  have hlt : ∀ p ∈ before, p.block < W.heap.size := fun p hp => hW.lt p hp
  have hold : ∀ p ∈ before, (fun b => decide (b < W.heap.size)) p.block = true := fun p hp => by simpa using hlt p hp
  refine ⟨ds, gs, before, [], pa, pv, hW, hres _ _ _, hargs _ hold, hvars _ hold, World.keptBut_mono (fun p hp => ⟨hp, ?_⟩) (hb.frame (· ∈ before)), fun _ => ?_⟩
  · rw [hps, List.mem_append] at hp
    exact Or.inr hp
  · obtain ⟨_, _, _, _, _, hz, hn⟩ := hW
    refine ⟨hok, _, _, ([] ++ pa) ++ pv, ⟨[] ++ pa, pv, trodAll_append (hargs _ (fun _ _ => rfl)) (hres _ _ _), hvars _ (fun _ _ => rfl), rfl, ?_, ?_⟩, ?_⟩
    · intro b off hp
      have hin : MemPlace.cell b off ∈ before := by rw [hps]; simpa using hp
      rw [hb.frozen (hlt _ hin)]
      exact hz b off hin
    · intro ha
      have := hn ha
      rw [hps] at this
      simpa using this
    · intro p hp _
      rw [hps]
      simpa using hp
end

/-- A law's answer: true; old memory is as it was. -/
def Law (w : World) (e : Ending) (w' : World) : Prop := e = .returned (.bool true) ∧ Below w.heap.size w w'
theorem Law.mk {w w' : World} (h : Below w.heap.size w w') : Law w (.returned (.bool true)) w' := ⟨rfl, h⟩

section
variable {H : Type} {enc : TypeId × Value → H}
theorem laidOut : laidOutB Tryz.prog = true := by kernel_rfl
theorem trodAll_stays {P : Program} (hlo : laidOutB P = true) {W W' : World} (hb : Below W.heap.size W W') (sp : Nat → Bool) (ts : List TypeId) : ∀ (vs : List Value) (ds : List (DataW H)) (ps : List MemPlace),
    (∀ t ∈ ts, P.readableRec t = true ∧ t < P.types.size) → (∀ x ∈ ps, x.block < W.heap.size) → (∀ p ∈ ps, sp p.block = true) →
    DataW.TrodAll enc P W 0 (fun _ => true) true ts vs ds ps → DataW.TrodAll enc P W' 0 sp true ts vs ds ps := by
  induction ts with
  | nil =>
    intro vs ds ps _ _ _ h
    obtain ⟨rfl, rfl, rfl⟩ := trodAll_nil h
    exact trodAll_mk0
  | cons t ts ih =>
    intro vs ds ps ht hlt hsp h
    obtain ⟨v, vs', d, ds', p, q, rfl, rfl, rfl, h0, hr⟩ := trodAll_cons h
    have ht0 := ht t (by simp)
    exact trodAll_cons_mk (WideElems.Trod_stays hlo ht0.1 ht0.2 h0 (fun x hx => hb.same (hlt x (by simp [hx]))) (fun x hx => hsp x (by simp [hx])))
      (ih vs' ds' q (fun u hu => ht u (by simp [hu])) (fun x hx => hlt x (by simp [hx])) (fun x hx => hsp x (by simp [hx])) hr)

theorem blist : Value.resultList 1 (Value.bool true) = [Value.bool true] := by kernel_rfl
set_option maxRecDepth 100000 in
/-- What a law's walk gives is what its row asks. -/
theorem law_close {F : FuncId} {f : Func} {s : ChangeSpec} {W : World} {args : Array Value} {ds gs : List (DataW H)} {before : List MemPlace} (hvars : s.vars = []) (hrt : f.resultTypes = #[4])
    (hpar : (f.params.toList.all fun t => Tryz.prog.readableRec t && decide (t < Tryz.prog.types.size)) = true) (hfn : s.fn H ds = { results := [.lit (.bool true)], args := ds })
    (hW : DataW.Whole enc Tryz.prog f.params.toList s.vars false W args.toList ds gs before) (h : Calls Tryz.prog F args W (Law W)) :
    Calls Tryz.prog F args W fun e W' => ∃ v, e = .returned v ∧ s.post enc Tryz.prog f false true false false W args v W' := by
  refine h.mono fun e W' ⟨he, hb⟩ => ⟨_, he, ?_⟩
  have hW' := hW
  obtain ⟨p, q, hA, hV, rfl, hfz, hnd⟩ := hW
  have hlt : ∀ x ∈ p ++ q, x.block < W.heap.size := fun x hx => hW'.lt x hx
  rw [hvars] at hV
  obtain ⟨rfl, rfl⟩ := trodVars_none hV
  have hfn' : s.fn H (ds ++ []) = { results := [.lit (.bool true)], args := ds } := by rw [List.append_nil]; exact hfn
  refine post_of_below (pa := p) (pv := []) hW' ?_ ?_ ?_ rfl hb ?_
  · intro b sp hd
    rw [hfn', hrt]
    exact trodAll_mk1 (shut_bool Tryz.underlying4 true)
  · intro sp hsp
    rw [hfn']
    exact trodAll_stays laidOut hb sp _ _ _ _ (fun t ht => by have := List.all_eq_true.1 hpar t ht; rw [Bool.and_eq_true] at this; exact ⟨this.1, of_decide_eq_true this.2⟩) (fun x hx => hlt x (by simp [hx])) (fun x hx => hsp x (by simp [hx])) hA
  · intro sp _
    rw [hfn', hvars]
    rfl
  · exact ok_one hrt blist (okWide_bool_mk Tryz.underlying4 true)
end

/-! the evaluator's contract, as a call -/
def ctx0 (W : World) : Ctx := ⟨fun _ => True, fun _ => False, fun _ => False, W, fun _ => none⟩
theorem core0 {γ : Glob} {W : World} (hG : γ.G W) (hn : γ.n ≤ W.heap.size) : Core γ (ctx0 W) [] (ctx0 W).L W where
  glob := hG
  gn := hn
  gx := fun _ h => h.elim
  fresh := fun _ _ => trivial
  os := rfl
  tape := rfl
  output := rfl
  size := Nat.le_refl _
  kept := fun _ _ _ => rfl
  lim := fun _ _ h => by cases h
  new := fun _ _ _ _ h => by cases h
  dis := fun _ _ _ _ _ h => by cases h
  hand := fun _ _ h => by cases h
  blk := fun i lb h => by simp at h
theorem law_ok {g : Cfg} {γ : Glob} (hW : Wf g γ) {F : Nat} {xs : List AV} {us : Array Value} {W : World} (hc : Cl g F (xs.map .t) [] (.t (.bool true)) []) (hG : γ.G W) (hn : γ.n ≤ W.heap.size) (hv : Vs W xs us.toList) : Calls g.P F us W (Law W) := by
  obtain ⟨n, hn'⟩ := hc
  have h := ((sound hW n).1 F _ _ _ _ hn').2 (ctx0 W) W us (core0 hG hn) rfl (by rw [List.length_map, hv.1]; simp) (fun j x u hx hu => by
    rw [List.getElem?_map] at hx
    cases hy : xs[j]? with
    | none => rw [hy] at hx; cases hx
    | some y =>
      rw [hy] at hx
      cases hx
      exact .t _ _ ((hv.2 j y u hy (by simpa using hu)).on (Nat.le_refl _) fun b _ _ => ⟨⟨trivial, fun ⟨i, v, lb, h1, _⟩ => by cases h1⟩, rfl⟩))
  refine h.mono fun e w' ⟨v, L', he, hC, hS⟩ => ⟨?_, ⟨hC.os, hC.tape, hC.output, hC.size, fun k hk => hC.kept k hk id⟩⟩
  rw [he]
  cases hS with
  | t x v h => cases h; rfl
theorem sml_args {H : Type} {P : Program} {ts us : List TypeId} {ds gs : List (DataW H)} (h : (DataW.weightsEach P (ts ++ us) (ds ++ gs)).all (· ≤ reachBytes) = true) : Sml (DataW.weightsEach P ts ds) := by
  have h0 : Sml (DataW.weightsEach P (ts ++ us) (ds ++ gs)) := fun n hn => by simpa using List.all_eq_true.1 h n hn
  clear h
  induction ts generalizing ds with
  | nil => intro n hn; simp [DataW.weightsEach] at hn
  | cons t ts ih =>
    cases ds with
    | nil => intro n hn; simp [DataW.weightsEach] at hn
    | cons d ds =>
      simp only [List.cons_append, DataW.weightsEach] at h0 ⊢
      have h1 := Sml.app h0
      intro n hn
      rcases List.mem_append.1 hn with h | h
      · exact h1.1 n h
      · exact ih h1.2 n h
/-- One argument: the tree of its type's shape. -/
def Arg (P : Program) (m : Nat) (t : TypeId) (x : AV) : Prop := ∃ xs, Shp P m t xs ∧ (match P.underlying t with
  | some (.struct _) => x = .agg xs
  | _ => xs = [x])
/-- The arguments, opened. -/
def Args (P : Program) (m : Nat) : List TypeId → List AV → Prop
  | [], xs => xs = []
  | t :: ts, xs => ∃ x ys, xs = x :: ys ∧ Arg P m t x ∧ Args P m ts ys
theorem vs_one {W : World} {xs : List AV} {v : Value} (h : Vs W xs [v]) : ∃ x, xs = [x] ∧ VR (fun _ => True) W x v := by
  match xs, h with
  | [x], h => exact ⟨x, rfl, h.2 0 x v rfl rfl⟩
  | [], h => simp [Vs] at h
  | _ :: _ :: _, h => simp [Vs] at h
section
variable {H : Type} {enc : TypeId × Value → H} {P : Program} {W : World}
theorem arg_of {m b0 : Nat} {t : TypeId} {v : Value} {d : DataW H} {ps : List MemPlace} (hty : tyOk P m t = true) (hv : Value.okWide P W .any b0 t v) (h : DataW.Trod enc P W 0 (fun _ => true) true t v d ps) (hs : Sml (d.weights P t)) : ∃ x, Arg P m t x ∧ VR (fun _ => True) W x v := by
  obtain ⟨fuel, hf⟩ := h
  obtain ⟨xs, h1, h2⟩ := tree_of_trod m t hty fuel _ d ps hf hs
  have one : ∀ u, v.cells.toList = [u] → v = u → (∀ fs, P.underlying t ≠ some (.struct fs)) → ∃ x, Arg P m t x ∧ VR (fun _ => True) W x v := fun u hc hu hns => by
    rw [hc] at h2
    obtain ⟨x, rfl, hx⟩ := vs_one h2
    refine ⟨x, ⟨[x], h1, ?_⟩, hu ▸ hx⟩
    split
    · rename_i fs hfs; exact absurd hfs (hns fs)
    · rfl
  cases m with
  | zero => unfold tyOk at hty; cases hty
  | succ m =>
    unfold tyOk at hty
    split at hty
    · rename_i k hu
      obtain ⟨n, rfl⟩ := okWide_int hu hv
      exact one _ rfl rfl fun fs h => by rw [hu] at h; cases h
    · rename_i hu
      obtain ⟨n, rfl⟩ := okWide_bool hu hv
      exact one _ rfl rfl fun fs h => by rw [hu] at h; cases h
    · rename_i hu
      obtain ⟨n, rfl⟩ := okWide_string hu hv
      exact one _ rfl rfl fun fs h => by rw [hu] at h; cases h
    · rename_i e hu
      obtain ⟨a, l, c, rfl⟩ := okWide_slice hu hv
      exact one _ rfl rfl fun fs h => by rw [hu] at h; cases h
    · rename_i fs hu
      obtain ⟨cs, rfl, _⟩ := okWide_struct hu hv
      refine ⟨.agg xs, ⟨xs, h1, by rw [hu]⟩, .agg xs cs (by have := h2.1; simp [Value.cells] at this; omega) fun j x u hx hu' => h2.2 j x u hx (by simpa [Value.cells] using hu')⟩
    · cases hty
theorem args_of {m b0 : Nat} : ∀ (ts : List TypeId) (vs : List Value) (ds : List (DataW H)) (ps : List MemPlace), (ts.all fun t => tyOk P m t) = true → (∀ (j : Nat) t v, ts[j]? = some t → vs[j]? = some v → Value.okWide P W .any b0 t v) → DataW.TrodAll enc P W 0 (fun _ => true) true ts vs ds ps → Sml (DataW.weightsEach P ts ds) → ds.length = ts.length ∧ ∃ xs, Args P m ts xs ∧ Vs W xs vs
  | [], vs, ds, ps, _, _, h, _ => by
    obtain ⟨rfl, rfl, rfl⟩ := trodAll_nil h
    exact ⟨rfl, [], rfl, rfl, fun j x u hx => by simp at hx⟩
  | t :: ts, vs, ds, ps, hty, hv, h, hs => by
    obtain ⟨v, vs', d, ds', p, q, rfl, rfl, rfl, h0, hr⟩ := trodAll_cons h
    rw [List.all_cons, Bool.and_eq_true] at hty
    have hs' := Sml.app (show Sml (d.weights P t ++ DataW.weightsEach P ts ds') from hs)
    obtain ⟨x, hx, hxv⟩ := arg_of hty.1 (hv 0 t v rfl rfl) h0 hs'.1
    obtain ⟨hl, ys, hy, hyv⟩ := args_of ts vs' ds' q hty.2 (fun j t v ht hv' => hv (j + 1) t v (by simpa using ht) (by simpa using hv')) hr hs'.2
    exact ⟨by simp [hl], x :: ys, ⟨x, ys, rfl, hx, hy⟩, (Vs.one hxv).app hyv⟩
set_option maxRecDepth 100000 in
/-- A law's contract on trees gives what its row asks. -/
theorem law_all {m b0 : Nat} {g : Cfg} {γ : Glob} (hP : g.P = Tryz.prog) (hWf : Wf g γ) {F : FuncId} {f : Func} {s : ChangeSpec} {args : Array Value} {ds gs : List (DataW H)} {before : List MemPlace} {ts : List TypeId} (hvars : s.vars = []) (hrt : f.resultTypes = #[4])
    (hpar : (f.params.toList.all fun t => Tryz.prog.readableRec t && decide (t < Tryz.prog.types.size)) = true) (hty : (f.params.toList.all fun t => tyOk Tryz.prog m t) = true) (hfn : ∀ ds : List (DataW H), ds.length = f.params.toList.length → s.fn H ds = { results := [.lit (.bool true)], args := ds })
    (hval : ∀ (j : Nat) t v, f.params[j]? = some t → args[j]? = some v → Value.okWide Tryz.prog W .any b0 t v)
    (hW : DataW.Whole enc Tryz.prog f.params.toList s.vars false W args.toList ds gs before) (hsz : (DataW.weightsEach Tryz.prog (f.params.toList ++ ts) (ds ++ gs)).all (· ≤ reachBytes) = true)
    (hG : γ.G W) (hn : γ.n ≤ W.heap.size) (hlaw : ∀ xs, Args Tryz.prog m f.params.toList xs → Cl g F (xs.map .t) [] (.t (.bool true)) []) :
    Calls Tryz.prog F args W fun e W' => ∃ v, e = .returned v ∧ s.post enc Tryz.prog f false true false false W args v W' := by
  have hW' := hW
  obtain ⟨p, q, hA0, hV, rfl, hfz, hnd⟩ := hW
  have hA : DataW.TrodAll enc Tryz.prog W 0 (fun _ => true) true f.params.toList args.toList ds p := hA0
  obtain ⟨hl, xs, hx, hxv⟩ := args_of f.params.toList args.toList ds p hty (fun j t v h1 h2 => hval j t v (by simpa using h1) (by simpa using h2)) hA (sml_args hsz)
  refine law_close hvars hrt hpar (hfn ds hl) hW' ?_
  rw [← hP]
  exact law_ok hWf (hlaw xs hx) hG hn hxv
end
end Go.Proofs.YtgbfedgghjcdcaaGreatDoor
