/- Walks: Parse of the clocks. Conditions: the library's variables hold what their types say, the table of powers stands. -/
import Derived.Test.YtfdchnepaaampaaDoorClkX
namespace Go.Proofs.YtfdchnepaaampaaDoor
set_option linter.unusedSimpArgs false
set_option linter.unusedVariables false
set_option linter.unusedSectionVars false
open Go.RowKit

theorem split_any (s : ByteArray) (hs : s.size ≤ 1048576) (w : World) (hv : Vars w) :
    Calls Tryd.prog 50 #[.string s, .string ⟨#[32]⟩] w fun e w' => e = .returned (.slice (some ⟨w.heap.size, 0, none⟩) (Lib.countB s ⟨#[32]⟩ + 1) (Lib.countB s ⟨#[32]⟩ + 1)) ∧ w' = w.alloc (.cells ((Lib.splitB ⟨#[32]⟩ 0 (Lib.countB s ⟨#[32]⟩) s).map Value.string).toArray 9) := by
  obtain ⟨_, _, m, hm⟩ := hv
  exact Go.Proofs.Any.strings_Split { Tryd.laysM146 with } Tryd.laysM146.i9 s ⟨#[32]⟩ m w (by omega) hm (by decide)
/-- The words of a text. -/
def wordsB (s : ByteArray) : List ByteArray := Lib.splitB ⟨#[32]⟩ 0 (Lib.countB s ⟨#[32]⟩) s
theorem wordsB_len (s : ByteArray) : (wordsB s).length = Lib.countB s ⟨#[32]⟩ + 1 := Lib.splitB_all _ (by decide) 0 _ s rfl
theorem wordsB_data (s : ByteArray) : (wordsB s).map (·.data.toList) = wordsOf s.data.toList := by
  unfold wordsB wordsOf
  rw [Lib.splitB_data]
theorem word_size (s : ByteArray) : ∀ x ∈ wordsB s, x.size ≤ s.size := by
  have : ∀ (k : Nat) (t : ByteArray), ∀ x ∈ Lib.splitB ⟨#[32]⟩ 0 k t, x.size ≤ t.size := by
    intro k
    induction k with
    | zero => intro t x hx; simp [Lib.splitB] at hx; subst hx; exact Nat.le_refl _
    | succ k ih =>
      intro t x hx
      unfold Lib.splitB at hx
      split at hx
      · simp at hx; subst hx; exact Nat.le_refl _
      · rcases List.mem_cons.1 hx with rfl | hx
        · rw [ByteArray.size_extract]; omega
        · have := ih _ x hx
          rw [ByteArray.size_extract] at this; omega
  exact this _ s
def parQ (l : List UInt8) : List Int × Int := match clkP l with | some c => (c, 0) | none => ([], 3)
theorem parQ_eq (l : List UInt8) : parQ l = parP l := by unfold parQ parP; rw [refP_clkP]; cases clkP l <;> rfl
theorem atois_step {ws : List (List UInt8)} {k : Nat} {x : List UInt8} {v : Int} (hx : ws[k]? = some x) (hv : Lib.atoiAll x = .ok v) : atois (ws.drop k) = (atois (ws.drop (k + 1))).map (v :: ·) := by
  have hlt := lt_of_get hx
  rw [List.drop_eq_getElem_cons hlt]
  have : ws[k] = x := by rw [List.getElem?_eq_getElem hlt] at hx; exact Option.some.inj hx
  rw [this, atois, hv]
theorem atois_bad {ws : List (List UInt8)} {k : Nat} {x : List UInt8} (hx : ws[k]? = some x) (hv : ∀ v, Lib.atoiAll x ≠ .ok v) : atois (ws.drop k) = none := by
  have hlt := lt_of_get hx
  rw [List.drop_eq_getElem_cons hlt]
  have : ws[k] = x := by rw [List.getElem?_eq_getElem hlt] at hx; exact Option.some.inj hx
  rw [this, atois]
  split
  · rename_i v h; exact absurd h (hv v)
  · rfl

def okP (l : List UInt8) : Bool := Lib.hasPrefix l [91]
def okS (l : List UInt8) : Bool := Lib.hasSuffix (Lib.trimPrefix l [91]) [93]
theorem parQ_pre {l : List UInt8} (h : okP l = false) : parQ l = ([], 3) := by
  unfold okP at h
  simp [parQ, clkP, h]
theorem parQ_suf {l : List UInt8} (h : okS l = false) : parQ l = ([], 3) := by
  unfold okS at h
  simp [parQ, clkP, h]
theorem parQ_words {l : List UInt8} (h1 : okP l = true) (h2 : okS l = true) : parQ l = match atois (wordsOf (bodyOf l)) with | none => ([], 3) | some c => if fmtS c = l then (c, 0) else ([], 3) := by
  unfold okP at h1; unfold okS at h2
  simp only [parQ, clkP, h1, h2]
  cases atois (wordsOf (bodyOf l)) with
  | none => rfl
  | some c => by_cases hf : fmtS c = l <;> simp [hf]
theorem own_slice {w : World} {base n : Nat} {v : Value} {e : TypeId} {size : Nat} {xs : List Value} (h : w.ownsRow base e size v n xs) : ∃ A c, v = .slice A n c := by
  rcases h.2 with ⟨rfl, rfl⟩ | ⟨g, cap, cur, rfl, _⟩
  · exact ⟨none, 0, rfl⟩
  · exact ⟨_, _, rfl⟩
theorem split_w (s : ByteArray) (hs : s.size ≤ 1048576) (w : World) (hv : Vars w) (n : Nat) (hn : (wordsB s).length = n) :
    Calls Tryd.prog 50 #[.string s, .string ⟨#[32]⟩] w fun e w' => ∃ A, e = .returned (.slice A n n) ∧ RC w' A ((wordsB s).map Value.string) ∧ Below w.heap.size w w' := by
  subst hn
  refine (split_any s hs w hv).mono ?_
  rintro e w' ⟨rfl, rfl⟩
  refine ⟨some ⟨w.heap.size, 0, none⟩, by rw [wordsB_len], ?_, (Below.refl _ _).alloc (Nat.le_refl _) _⟩
  exact RC.lit w _ _

set_option maxHeartbeats 1600000 in
set_option maxRecDepth 100000 in
theorem parse_any (b : ByteArray) (w : World) (hs : b.size ≤ 1024) (hv : Vars w) (ht : Tab w) :
    Calls Tryd.prog 35 #[.string b] w (RetE (parQ b.data.toList) w) := by
  obtain ⟨i0, hi, hz0, hz1, hz2⟩ := info_parts int_info
  replace hi := Lib.hid hi; replace hz0 := Lib.hid hz0; replace hz1 := Lib.hid hz1; replace hz2 := Lib.hid hz2
  obtain ⟨p1, hp1⟩ : ∃ p1 : ByteArray, p1 = ⟨(Lib.trimPrefix b.data.toList [91]).toArray⟩ := ⟨_, rfl⟩
  obtain ⟨p2, hp2⟩ : ∃ p2 : ByteArray, p2 = ⟨(bodyOf b.data.toList).toArray⟩ := ⟨_, rfl⟩
  have hl1 : (Lib.trimPrefix b.data.toList [91]).length ≤ 1024 := by
    have : b.data.toList.length = b.size := Array.length_toList
    unfold Lib.trimPrefix; split
    · rw [List.length_drop]; omega
    · omega
  have hs1 : p1.size ≤ 1024 := by rw [hp1]; simpa [ByteArray.size] using hl1
  have hs2 : p2.size ≤ 1024 := by
    rw [hp2]
    have : (bodyOf b.data.toList).length ≤ 1024 := by
      unfold bodyOf Lib.trimSuffix; split
      · rw [List.length_take]; omega
      · omega
    simpa [ByteArray.size] using this
  have hc1 : Calls Tryd.prog 48 #[.string b, .string ⟨#[91]⟩] w fun e w' => e = .returned (.tuple #[.string p1, .bool (okP b.data.toList)]) ∧ w = w' := by
    refine (Tryd.strings_CutPrefix b ⟨#[91]⟩ w).mono ?_
    rintro e w' ⟨rfl, rfl⟩
    subst hp1
    exact ⟨rfl, rfl⟩
  have hc2 : Calls Tryd.prog 49 #[.string p1, .string ⟨#[93]⟩] w fun e w' => e = .returned (.tuple #[.string p2, .bool (okS b.data.toList)]) ∧ w = w' := by
    refine (Tryd.strings_CutSuffix p1 ⟨#[93]⟩ w (by omega)).mono ?_
    rintro e w' ⟨rfl, rfl⟩
    subst hp1 hp2
    exact ⟨rfl, rfl⟩
  have hd2 : Hid (p2.data.toList = bodyOf b.data.toList) := by show _ = _; rw [hp2]
  clear hp1 hp2
  obtain ⟨n, hn⟩ : ∃ n, (wordsB p2).length = n := ⟨_, rfl⟩
  have hc3 := fun w' hv' => split_w p2 (by omega) w' hv' n hn
  have hn1 : n ≤ 1025 := by
    have h1 := Lib.countB_le ⟨#[32]⟩ (by decide) _ p2 (Nat.le_refl _)
    rw [← hn, wordsB_len]; omega
  cases hok : okP b.data.toList with
  | false =>
    have hfin := Lib.hid (parQ_pre hok)
    rw [hok] at hc1
    replace hc1 := Lib.hid hc1; replace hc2 := Lib.hid hc2
    go_enter Tryd.func35, Tryd.ntmps35
    go_wp2_with fail
    refine hc1.out.mono ?_; rintro e w' ⟨rfl, rfl⟩
    go_wp2_with fail
    refine hc2.out.mono ?_; rintro e w' ⟨rfl, rfl⟩
    go_wp2_with fail
    go_ret2
    exact RetE.mk hfin.out (RI.nil _) (Below.refl _ _)
  | true =>
    rw [hok] at hc1
    replace hc1 := Lib.hid hc1
    cases hos : okS b.data.toList with
    | false =>
      have hfin := Lib.hid (parQ_suf hos)
      rw [hos] at hc2
      replace hc2 := Lib.hid hc2
      go_enter Tryd.func35, Tryd.ntmps35
      go_wp2_with fail
      refine hc1.out.mono ?_; rintro e w' ⟨rfl, rfl⟩
      go_wp2_with fail
      refine hc2.out.mono ?_; rintro e w' ⟨rfl, rfl⟩
      go_wp2_with fail
      go_ret2
      exact RetE.mk hfin.out (RI.nil _) (Below.refl _ _)
    | true =>
      rw [hos] at hc2
      have hpw := parQ_words hok hos
      replace hc2 := Lib.hid hc2
      rw [← hd2.out, ← wordsB_data] at hpw
      have hn' := Lib.hid hn
      have hws := word_size p2
      obtain ⟨ws, hwsd⟩ : ∃ ws, wordsB p2 = ws := ⟨_, rfl⟩
      rw [hwsd] at hpw hn' hws
      replace hpw := Lib.hid hpw
      clear hn hd2
      have hc3' := Lib.hid (hc3 w hv)
      rw [hwsd] at hc3'
      clear hc3 hwsd
      go_enter Tryd.func35, Tryd.ntmps35
      go_wp2_with fail
      refine hc1.out.mono ?_; rintro e w' ⟨rfl, rfl⟩
      go_wp2_with fail
      refine hc2.out.mono ?_; rintro e w' ⟨rfl, rfl⟩
      go_wp2_with fail
      refine hc3'.out.mono ?_; rintro e w1 ⟨A, rfl, hrc, hb1⟩
      go_wp2_with fail
      go_loopw [7, 31] (fun c i wr => ∃ (k : Nat) (xs : List Int), k ≤ n ∧ i = .int .i64 k ∧ Hid (xs.length = k) ∧ wr.ownsRow w1.heap.size 3 1 c k (xs.map (.int .i64)) ∧ Hid (atois (ws.map (·.data.toList)) = (atois ((ws.map (·.data.toList)).drop k)).map (xs ++ ·)) ∧ Below w1.heap.size w1 wr) (fun _ i _ => n - (intOf i).toNat)
      case atStart => exact ⟨0, [], Nat.zero_le _, rfl, rfl, World.ownsRow_nil _ _ _ _, (by show _ = _; simp), Below.refl _ _⟩
      case round =>
        obtain ⟨k, xs, hk, rfl, hxl, hown, hat, hbk⟩ := hrel
        have hbw : Below w.heap.size w wr := hb1.trans (hbk.mono hb1.size)
        by_cases hlt : k < n
        · obtain ⟨b', o', u, rfl, hbs, hu, hc⟩ := (hrc.below hbk).at_ (k := k) (by rw [List.length_map, hn'.out]; exact hlt)
          rw [List.getElem?_map] at hu
          obtain ⟨x, hx, rfl⟩ : ∃ x, ws[k]? = some x ∧ Value.string x = u := by
            cases hx : ws[k]? with
            | none => rw [hx] at hu; cases hu
            | some x => rw [hx] at hu; exact ⟨x, rfl, Option.some.inj hu⟩
          have hxs := hws x (List.mem_of_getElem? hx)
          have hxd : (ws.map (·.data.toList))[k]? = some x.data.toList := by rw [List.getElem?_map, hx]; rfl
          replace hx := Lib.hid hx
          clear hu
          by_cases hgood : ∃ v, Lib.atoiAll x.data.toList = .ok v
          · obtain ⟨v, hv1⟩ := hgood
            have hgd := atoi_good x (by omega) v hv1 wr
            have hst := atois_step hxd hv1
            have hat' : Hid (atois (ws.map (·.data.toList)) = (atois ((ws.map (·.data.toList)).drop (k + 1))).map ((xs ++ [v]) ++ ·)) := by
              show _ = _
              rw [hat.out, hst, Option.map_map]
              congr 1
              funext t; simp
            have hxl' : Hid ((xs ++ [v]).length = k + 1) := by show _ = _; rw [List.length_append, hxl.out]; rfl
            have hxs' : xs.map (Value.int .i64) ++ [.int .i64 v] = (xs ++ [v]).map (.int .i64) := by simp
            clear hst hv1 hat hpw hws
            replace hxd := Lib.hid hxd
            replace hgd := Lib.hid hgd
            replace hown := Lib.hid hown
            go_wp2_with fail
            refine hgd.out.mono ?_; rintro e w2 ⟨rfl, hbb⟩
            have hb2 : Below w.heap.size w w2 := hbw.trans (hbb.mono hbw.size)
            have hb3 : Below w1.heap.size w1 w2 := hbk.trans (hbb.mono hbk.size)
            have hown1 : Hid (World.ownsRow (w2.alloc (.cells #[.int .i64 v] 3)) w1.heap.size 3 1 u7 k (xs.map (.int .i64))) := (own_below hown.out hbb).alloc _
            have hnew := Lib.hid (RC.lit w2 #[.int .i64 v] 3)
            have hsz1 := hb1.size
            go_wp2_with (first
              | (at_builtin
                 refine wpList_append_any _ rfl (.tmp 42) (.tmp 44) 25 rfl w1.heap.size 3 i0 (.int .i64 0) 1 8 Tryd.underlying25 hi.out hz0.out hz1.out hz2.out rfl (by omega) _ k _ rfl hown1.out _ 1 1 [.int .i64 v] rfl rfl hnew.out (by intro u hu; simp at hu; subst hu; rfl) (by unfold maxLen; omega) (by omega) (by have h1 := hb3.size; simp; omega) ?_
                 intro v1 w3 hown2 hg2 hat2))
            have hbx : Below w1.heap.size w1 w3 := (hb3.alloc hb3.size _).grown hg2 (by have h1 := hb3.size; simp; omega) (fun j hj => (hown1.out.lt j hj).1)
            rw [hxs'] at hown2
            clear hg2 hat2 hown1 hnew
            go_roundw
            case rel => exact ⟨k + 1, xs ++ [v], by omega, by go_num, hxl', hown2, hat', hbx⟩
            case measure => simp [intOf]; omega
          · have hall : ∀ v, Lib.atoiAll x.data.toList ≠ .ok v := fun v hv1 => hgood ⟨v, hv1⟩
            have hbd := Lib.hid (atoi_bad x (by omega) hall wr (hv.below hbw))
            have hfin : Hid (parQ b.data.toList = ([], 3)) := by
              show _ = _
              rw [hpw.out, hat.out, atois_bad hxd hall]; rfl
            replace hxd := Lib.hid hxd
            clear hgood hall hown hat
            go_wp2_with fail
            refine hbd.out.mono ?_; rintro e w' ⟨xv, te, pe, rfl, hbb⟩
            go_wp2_with fail
            go_ret2
            exact RetE.mk hfin.out (RI.nil _) (hbw.trans (hbb.mono hbw.size))
        · obtain rfl : k = n := by omega
          have hdone : atois (ws.map (·.data.toList)) = some xs := by
            rw [hat.out, List.drop_of_length_le (by rw [List.length_map, hn'.out]; omega)]
            simp [atois]
          rw [hdone] at hpw
          obtain ⟨A', c', rfl⟩ := own_slice hown
          have hri := RI.own hown (by omega)
          have hfm := Lib.hid (format_any A' k c' xs wr hri (ht.below hbw))
          replace hri := Lib.hid hri
          clear hown hat hdone
          cases hq : (fmtS xs == b.toList) with
          | true =>
            have hfin : Hid (parQ b.data.toList = (xs, 0)) := by
              show _ = _
              rw [hpw.out]
              exact if_pos (by rw [← ByteArray.toList_eq]; exact beq_iff_eq.1 hq)
            go_wp2_with fail
            refine hfm.out.mono ?_; rintro e w2 ⟨rfl, hbb⟩
            go_wp2_with fail
            go_ret2
            exact RetE.mk hfin.out (hri.out.below hbb) (hbw.trans (hbb.mono hbw.size))
          | false =>
            have hfin : Hid (parQ b.data.toList = ([], 3)) := by
              show _ = _
              rw [hpw.out]
              exact if_neg (by rw [← ByteArray.toList_eq]; exact beq_eq_false_iff_ne.1 hq)
            go_wp2_with fail
            refine hfm.out.mono ?_; rintro e w2 ⟨rfl, hbb⟩
            go_wp2_with fail
            go_ret2
            exact RetE.mk hfin.out (RI.nil _) (hbw.trans (hbb.mono hbw.size))
end Go.Proofs.YtfdchnepaaampaaDoor
