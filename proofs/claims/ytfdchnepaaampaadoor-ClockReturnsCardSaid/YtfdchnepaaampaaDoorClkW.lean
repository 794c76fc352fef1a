/- Walks: Parse of the clocks' reference. Conditions: none but the text's size. -/
import Derived.Test.YtfdchnepaaampaaDoorClkV
import Derived.Test.YtfdchnepaaampaaDoorClkK
namespace Go.Proofs.YtfdchnepaaampaaDoor
set_option linter.unusedSimpArgs false
set_option linter.unusedVariables false
set_option linter.unusedSectionVars false
open Go.RowKit

def parP (l : List UInt8) : List Int × Int := match refP l with | some c => (c, 0) | none => ([], 3)
theorem parP_some {l : List UInt8} {c : List Int} (h : refP l = some c) : parP l = (c, 0) := by rw [parP, h]
theorem parP_none {l : List UInt8} (h : refP l = none) : parP l = ([], 3) := by rw [parP, h]
theorem numR_le (s : List UInt8) : (numR s).2 ≤ s.length ∧ -1 ≤ (numR s).1 ∧ (numR s).1 ≤ 9999999 := by
  unfold numR
  split
  · rename_i hc
    have h1 := nlead_le s
    have hd : (s.take (nlead s)).all isDig = true := by
      rw [nlead]
      have : s.take (s.takeWhile isDig).length = s.takeWhile isDig := by
        have := List.takeWhile_append_dropWhile (p := isDig) (l := s)
        conv => lhs; arg 2; rw [← this]
        rw [List.take_left' rfl]
      rw [this]
      simp
    have h2 := dv_le hc.1 (List.length_take_le _ _) hd
    exact ⟨h1, by omega, by omega⟩
  · simp

theorem bl_cons (b : ByteArray) (h : 0 < b.size) : b.data.toList = b[0] :: (b.extract 1 b.size).data.toList := by
  rw [Lib.extract_to_end]
  have : b.data.toList ≠ [] := by
    intro h0
    have h1 : b.data.toList.length = b.size := Array.length_toList
    rw [h0] at h1; simp at h1; omega
  cases hx : b.data.toList with
  | nil => exact absurd hx this
  | cons a t =>
    have h0 : b[0] = b.data.toList[0]'(by rw [hx]; simp) := rfl
    rw [h0]
    simp [hx]
theorem byte_ne {c : UInt8} {k : Nat} (h : ((c.toNat : Int) != k) = true) : c.toNat ≠ k := by simp at h; omega
theorem byte_eq {c : UInt8} {k : Nat} (h : ((c.toNat : Int) != k) = false) : c.toNat = k := by simp at h; omega
theorem refP_no (b : ByteArray) (h : 0 < b.size) (hb : b[0].toNat ≠ 91) : refP b.data.toList = none := by
  rw [bl_cons b h, refP, if_neg (by rintro h0; rw [h0] at hb; simp at hb)]
theorem refP_yes (b : ByteArray) (h : 0 < b.size) (hb : b[0].toNat = 91) : refP b.data.toList = refGo ((b.extract 1 b.size).size + 1) [] (b.extract 1 b.size).data.toList := by
  rw [bl_cons b h, refP, if_pos (UInt8.toNat_inj.1 (by simpa using hb))]
  congr 1
theorem go_stop {f : Nat} {xs : List Int} {s : List UInt8} (h : (numR s).2 = 0) : refGo (f + 1) xs s = none := by rw [refGo, if_pos h]
theorem go_done {f : Nat} {xs : List Int} {s : List UInt8} (h : (numR s).2 ≠ 0) (h1 : s.drop (numR s).2 = [93]) (hv : validB (xs ++ [(numR s).1]) = true) : refGo (f + 1) xs s = some (xs ++ [(numR s).1]) := by
  rw [refGo, if_neg h, if_pos ⟨h1, hv⟩]
theorem go_nil {f : Nat} {xs : List Int} {s : List UInt8} (h : (numR s).2 ≠ 0) (h1 : s.drop (numR s).2 = []) : refGo (f + 1) xs s = none := by
  rw [refGo, if_neg h, if_neg (by rw [h1]; simp), h1]
theorem go_bad {f : Nat} {xs : List Int} {s r : List UInt8} {c : UInt8} (h : (numR s).2 ≠ 0) (hn : ¬ (s.drop (numR s).2 = [93] ∧ validB (xs ++ [(numR s).1]) = true)) (h1 : s.drop (numR s).2 = c :: r) (hc : c.toNat ≠ 32) : refGo (f + 1) xs s = none := by
  rw [refGo, if_neg h, if_neg hn, h1]
  show (if c = 32 then _ else _) = _
  rw [if_neg (by rintro rfl; simp at hc)]
theorem go_on {f : Nat} {xs : List Int} {s r : List UInt8} {c : UInt8} (h : (numR s).2 ≠ 0) (hn : ¬ (s.drop (numR s).2 = [93] ∧ validB (xs ++ [(numR s).1]) = true)) (h1 : s.drop (numR s).2 = c :: r) (hc : c.toNat = 32) : refGo (f + 1) xs s = refGo f (xs ++ [(numR s).1]) r := by
  rw [refGo, if_neg h, if_neg hn, h1]
  show (if c = 32 then _ else _) = _
  rw [if_pos (UInt8.toNat_inj.1 (by simpa using hc))]

set_option maxHeartbeats 1600000 in
set_option maxRecDepth 100000 in
theorem rparse_any (b : ByteArray) (w : World) (hs : b.size ≤ 1024) :
    Calls Tryd.prog 36 #[.string b] w (RetE (parP b.data.toList) w) := by
  obtain ⟨i0, hi, hz0, hz1, hz2⟩ := info_parts int_info
  replace hi := Lib.hid hi; replace hz0 := Lib.hid hz0; replace hz1 := Lib.hid hz1; replace hz2 := Lib.hid hz2
  cases he : (b.toList == []) with
  | true =>
    have hfin : Hid (parP b.data.toList = ([], 3)) := by
      show _ = _
      rw [beq_iff_eq, ByteArray.toList_eq] at he
      rw [he]; rfl
    go_enter Tryd.func36, Tryd.ntmps36
    go_wp2_with fail
    go_ret2
    exact RetE.mk hfin.out (RI.nil _) (Below.refl _ _)
  | false =>
    have hpos : 0 < b.size := by
      rw [beq_eq_false_iff_ne, ByteArray.toList_eq] at he
      have h1 : b.data.toList.length = b.size := Array.length_toList
      cases hx : b.data.toList with
      | nil => exact absurd hx he
      | cons a t => rw [hx] at h1; simp at h1; omega
    cases hb0 : ((b[0].toNat : Int) != 91) with
    | true =>
      have hfin := Lib.hid (parP_none (refP_no b hpos (byte_ne hb0)))
      go_enter Tryd.func36, Tryd.ntmps36
      go_wp2_with fail
      go_ret2
      exact RetE.mk hfin.out (RI.nil _) (Below.refl _ _)
    | false =>
      have hyes := refP_yes b hpos (byte_eq hb0)
      obtain ⟨r0, hr0⟩ : ∃ r0, b.extract 1 b.size = r0 := ⟨_, rfl⟩
      have hr0s : r0.size ≤ 1024 := by rw [← hr0]; simp; omega
      rw [hr0] at hyes
      replace hyes := Lib.hid hyes
      have hemp := (w.ownsRow_lit (base := w.heap.size) (e := 3) (size := 1) #[] 0 (by simp) (by simp [maxLen]) rfl)
      replace hemp := Lib.hid hemp
      go_enter Tryd.func36, Tryd.ntmps36
      go_wp2_with fail
      go_loopw [4, 5] (fun o i wr => ∃ (xs : List Int) (k f : Nat) (r : ByteArray), i = .string r ∧ Hid (xs.length = k) ∧ wr.ownsRow w.heap.size 3 1 o k (xs.map (.int .i64)) ∧ Hid (refP b.data.toList = refGo f xs r.data.toList) ∧ r.size < f ∧ k + r.size ≤ 1024 ∧ Below w.heap.size w wr) (fun _ i _ => match i with | .string r => r.size | _ => 0)
      case atStart => exact ⟨[], 0, r0.size + 1, r0, rfl, rfl, hemp.out, hyes, by omega, by omega, (Below.refl _ _).alloc (Nat.le_refl _) _⟩
      case round =>
        obtain ⟨xs, k, f, r, rfl, hk, hown, hgo, hf, hkr, hbk⟩ := hrel
        clear hyes hemp hr0 hr0s he hb0
        obtain ⟨f, rfl⟩ : ∃ f', f = f' + 1 := ⟨f - 1, by omega⟩
        have hnl := numR_le r.data.toList
        have hrl : r.data.toList.length = r.size := Array.length_toList
        rw [hrl] at hnl
        obtain ⟨N, hN⟩ : ∃ N, (numR r.data.toList).1 = N := ⟨_, rfl⟩
        obtain ⟨z, hz⟩ : ∃ z, (numR r.data.toList).2 = z := ⟨_, rfl⟩
        rw [hN, hz] at hnl
        have hnum := number_any r wr (by omega)
        rw [hN, hz] at hnum
        replace hnum := Lib.hid hnum
        replace hrl := Lib.hid hrl
        by_cases hzn : z = 0
        · subst hzn
          have hfin := Lib.hid (parP_none (hgo.out.trans (go_stop hz)))
          replace hz := Lib.hid hz; replace hN := Lib.hid hN
          go_wp2_with fail
          refine hnum.out.mono ?_; rintro e w' ⟨rfl, q, rfl⟩
          go_wp2_with fail
          go_ret2
          exact RetE.mk hfin.out (RI.nil _) (below_drewN hbk _)
        · have hzb : ((z : Int) == 0) = false := by simp; omega
          obtain ⟨r', hr'⟩ : ∃ r', r.extract z r.size = r' := ⟨_, rfl⟩
          have hrs : r'.size = r.size - z := by rw [← hr']; simp
          have hdr : Hid (r.data.toList.drop (numR r.data.toList).2 = r'.data.toList) := by
            show _ = _; rw [hz, ← hr', Lib.extract_to_end]
          have hz' := Lib.hid (show (numR r.data.toList).2 ≠ 0 by rw [hz]; exact hzn)
          replace hz := Lib.hid hz
          replace hN := Lib.hid hN
          replace hown := Lib.hid hown
          replace hbk := Lib.hid hbk
          go_wp2_with fail
          refine hnum.out.mono ?_; rintro e w' ⟨rfl, q, rfl⟩
          have hown1 : Hid (World.ownsRow ((wr.drewN q).alloc (.cells #[.int .i64 N] 3)) w.heap.size 3 1 u4 k (xs.map (.int .i64))) := (own_below hown.out (below_drewN_self _ _ _)).alloc _
          have hnew := Lib.hid (RC.lit (wr.drewN q) #[.int .i64 N] 3)
          have hbq : Hid (Below w.heap.size w (wr.drewN q)) := below_drewN hbk.out q
          have hxs : xs.map (Value.int .i64) ++ [.int .i64 N] = (xs ++ [N]).map (.int .i64) := by simp
          cases hq : (r'.toList == [93]) with
          | true =>
            have hr93 : r'.data.toList = [93] := by rw [← ByteArray.toList_eq]; exact beq_iff_eq.1 hq
            have hnE : (r'.toList == []) = false := by rw [ByteArray.toList_eq, hr93]; rfl
            have hpr : 0 < r'.size := by rw [show r'.size = r'.data.toList.length from Array.length_toList.symm, hr93]; simp
            have hb93 : r'[0].toNat = 93 := by
              have := bl_cons r' hpr
              rw [hr93] at this
              injection this with h1 h2
              rw [← h1]; rfl
            have h32 : ((r'[0].toNat : Int) != 32) = true := by rw [hb93]; rfl
            go_wp2_with (first
              | (at_builtin
                 refine wpList_append_any _ rfl (.tmp 25) (.tmp 27) 25 rfl w.heap.size 3 i0 (.int .i64 0) 1 8 Tryd.underlying25 hi.out hz0.out hz1.out hz2.out rfl (by omega) _ k _ rfl hown1.out _ 1 1 [.int .i64 N] rfl rfl hnew.out (by intro u hu; simp at hu; subst hu; rfl) (by unfold maxLen; omega) (by omega) (by have h1 := hbk.out.size; simp; omega) ?_
                 intro v1 w2 hown2 hg2 hat2))
            obtain ⟨g, cap, hv1, hgb⟩ := own_form hown2 (fun e => by have := (hat2.2.1 e).2; omega)
            subst hv1
            have hbx : Below w.heap.size w w2 := (hbq.out.alloc hbq.out.size _).grown hg2 (by have h1 := hbk.out.size; simp; omega) (fun j hj => (hown1.out.lt j hj).1)
            rw [hxs] at hown2
            have hri : Hid (RI w2 (some ⟨g, 0, none⟩) (k + 1) (xs ++ [N])) := RI.own hown2 (by omega)
            clear hg2 hat2 hown1 hnew hbq
            clear hown2
            cases hv : validB (xs ++ [N]) with
            | true =>
              have hfin : Hid (parP b.data.toList = (xs ++ [N], 0)) := by
                show _ = _
                refine parP_some (hgo.out.trans ?_)
                rw [go_done hz'.out (by rw [hdr.out, hr93]) (by rw [hN.out]; exact hv), hN.out]
              replace hv := Lib.hid hv
              replace hr93 := Lib.hid hr93
              refine (rvalid_b _ _ _ _ _ hri.out _ hv.out).mono ?_; rintro e w' ⟨rfl, rfl⟩
              go_wp2_with fail
              go_ret2
              exact RetE.mk hfin.out hri.out hbx
            | false =>
              have hfin : Hid (parP b.data.toList = ([], 3)) := by
                show _ = _
                refine parP_none (hgo.out.trans ?_)
                refine go_bad hz'.out ?_ (hdr.out.trans (bl_cons r' hpr)) (by rw [hb93]; omega)
                rintro ⟨_, h2⟩; rw [hN.out, hv] at h2; cases h2
              replace hv := Lib.hid hv
              replace hr93 := Lib.hid hr93
              replace hb93 := Lib.hid hb93
              refine (rvalid_b _ _ _ _ _ hri.out _ hv.out).mono ?_; rintro e w' ⟨rfl, rfl⟩
              go_wp2_with fail
              go_ret2
              exact RetE.mk hfin.out (RI.nil _) hbx
          | false =>
            have hnd : Hid (¬ (r.data.toList.drop (numR r.data.toList).2 = [93] ∧ validB (xs ++ [(numR r.data.toList).1]) = true)) := by
              show ¬ _; rintro ⟨h2, _⟩; rw [hdr.out] at h2; rw [beq_eq_false_iff_ne, ByteArray.toList_eq] at hq; exact hq h2
            cases hE : (r'.toList == []) with
            | true =>
              have hfin : Hid (parP b.data.toList = ([], 3)) := by
                show _ = _
                refine parP_none (hgo.out.trans (go_nil hz'.out ?_))
                rw [hdr.out, ← ByteArray.toList_eq]; exact beq_iff_eq.1 hE
              go_wp2_with (first
                | (at_builtin
                   refine wpList_append_any _ rfl (.tmp 25) (.tmp 27) 25 rfl w.heap.size 3 i0 (.int .i64 0) 1 8 Tryd.underlying25 hi.out hz0.out hz1.out hz2.out rfl (by omega) _ k _ rfl hown1.out _ 1 1 [.int .i64 N] rfl rfl hnew.out (by intro u hu; simp at hu; subst hu; rfl) (by unfold maxLen; omega) (by omega) (by have h1 := hbk.out.size; simp; omega) ?_
                   intro v1 w2 hown2 hg2 hat2))
              obtain ⟨g, cap, hv1, hgb⟩ := own_form hown2 (fun e => by have := (hat2.2.1 e).2; omega)
              subst hv1
              have hbx : Below w.heap.size w w2 := (hbq.out.alloc hbq.out.size _).grown hg2 (by have h1 := hbk.out.size; simp; omega) (fun j hj => (hown1.out.lt j hj).1)
              rw [hxs] at hown2
              have hri : Hid (RI w2 (some ⟨g, 0, none⟩) (k + 1) (xs ++ [N])) := RI.own hown2 (by omega)
              clear hg2 hat2 hown1 hnew hbq
              go_ret2
              exact RetE.mk hfin.out (RI.nil _) hbx
            | false =>
              have hpr : 0 < r'.size := by
                rw [beq_eq_false_iff_ne, ByteArray.toList_eq] at hE
                have h1 : r'.data.toList.length = r'.size := Array.length_toList
                cases hx : r'.data.toList with
                | nil => exact absurd hx hE
                | cons a t => rw [hx] at h1; simp at h1; omega
              cases h32 : ((r'[0].toNat : Int) != 32) with
              | true =>
                have hfin : Hid (parP b.data.toList = ([], 3)) := by
                  show _ = _
                  exact parP_none (hgo.out.trans (go_bad hz'.out hnd.out (hdr.out.trans (bl_cons r' hpr)) (byte_ne h32)))
                go_wp2_with (first
                  | (at_builtin
                     refine wpList_append_any _ rfl (.tmp 25) (.tmp 27) 25 rfl w.heap.size 3 i0 (.int .i64 0) 1 8 Tryd.underlying25 hi.out hz0.out hz1.out hz2.out rfl (by omega) _ k _ rfl hown1.out _ 1 1 [.int .i64 N] rfl rfl hnew.out (by intro u hu; simp at hu; subst hu; rfl) (by unfold maxLen; omega) (by omega) (by have h1 := hbk.out.size; simp; omega) ?_
                     intro v1 w2 hown2 hg2 hat2))
                obtain ⟨g, cap, hv1, hgb⟩ := own_form hown2 (fun e => by have := (hat2.2.1 e).2; omega)
                subst hv1
                have hbx : Below w.heap.size w w2 := (hbq.out.alloc hbq.out.size _).grown hg2 (by have h1 := hbk.out.size; simp; omega) (fun j hj => (hown1.out.lt j hj).1)
                rw [hxs] at hown2
                have hri : Hid (RI w2 (some ⟨g, 0, none⟩) (k + 1) (xs ++ [N])) := RI.own hown2 (by omega)
                clear hg2 hat2 hown1 hnew hbq
                go_ret2
                exact RetE.mk hfin.out (RI.nil _) hbx
              | false =>
                have hon := go_on (f := f) (xs := xs) hz'.out hnd.out (hdr.out.trans (bl_cons r' hpr)) (byte_eq h32)
                rw [hN.out] at hon
                have hgo' := Lib.hid (hgo.out.trans hon)
                have hkl : Hid ((xs ++ [N]).length = k + 1) := by show _ = _; rw [List.length_append, hk.out]; rfl
                clear hon
                obtain ⟨r2, hr2⟩ : ∃ r2, r'.extract 1 r'.size = r2 := ⟨_, rfl⟩
                have hr2s : r2.size = r'.size - 1 := by rw [← hr2]; simp
                rw [hr2] at hgo'
                go_wp2_with (first
                  | (at_builtin
                     refine wpList_append_any _ rfl (.tmp 25) (.tmp 27) 25 rfl w.heap.size 3 i0 (.int .i64 0) 1 8 Tryd.underlying25 hi.out hz0.out hz1.out hz2.out rfl (by omega) _ k _ rfl hown1.out _ 1 1 [.int .i64 N] rfl rfl hnew.out (by intro u hu; simp at hu; subst hu; rfl) (by unfold maxLen; omega) (by omega) (by have h1 := hbk.out.size; simp; omega) ?_
                     intro v1 w2 hown2 hg2 hat2))
                obtain ⟨g, cap, hv1, hgb⟩ := own_form hown2 (fun e => by have := (hat2.2.1 e).2; omega)
                subst hv1
                have hbx : Below w.heap.size w w2 := (hbq.out.alloc hbq.out.size _).grown hg2 (by have h1 := hbk.out.size; simp; omega) (fun j hj => (hown1.out.lt j hj).1)
                rw [hxs] at hown2
                have hri : Hid (RI w2 (some ⟨g, 0, none⟩) (k + 1) (xs ++ [N])) := RI.own hown2 (by omega)
                clear hg2 hat2 hown1 hnew hbq
                go_roundw
                case rel => exact ⟨xs ++ [N], k + 1, f, r2, (by rw [← hrs]; exact congrArg _ hr2), hkl, hown2, hgo', by omega, by omega, hbx⟩
                case measure => simp; omega
end Go.Proofs.YtfdchnepaaampaaDoor
