/- Walks: Itoa by the shelf's contract, Format of the clocks and of their reference. Conditions: the arguments read as lists, the library's table of powers stands. -/
import Derived.Test.YtfdchnepaaampaaDoorClkB
import Derived.Test.YtfdchnepaaampaaDoorShelf
import Derived.Test.YtfdchnepaaampaaDoorSpecT
import Derived.WalkSmall
namespace Go.Proofs.YtfdchnepaaampaaDoor
set_option linter.unusedSimpArgs false
set_option linter.unusedVariables false
set_option linter.unusedSectionVars false
open Go.RowKit

theorem ret_str {l : List UInt8} {a : Array UInt8} (h : l.toArray = a) : Ending.returned (.string ⟨a⟩) = .returned (.string ⟨l.toArray⟩) := by rw [h]

/-- The library's table of the powers of ten. -/
def Tab (w : World) : Prop := Lib.TabIs Tryd.prog w "internal/strconv.uint64pow10" .u64 Lib.pow10Tab
theorem Tab.below {w w' : World} (h : Tab w) (hb : Below w.heap.size w w') : Tab w' := by
  have h' := h
  unfold Tab Lib.TabIs World.var? at h'
  cases hg : Tryd.prog.globalNamed "internal/strconv.uint64pow10" with
  | none => rw [hg] at h'; cases h'
  | some g =>
    rw [hg] at h'
    simp only [Option.bind_some] at h'
    have hlt : g < w.heap.size := by
      rcases Nat.lt_or_ge g w.heap.size with h1 | h1
      · exact h1
      · rw [Array.getElem?_eq_none h1] at h'; cases h'
    exact var?_below hb hg hlt h
theorem Tab.alloc {w : World} (h : Tab w) (o : Obj) : Tab (w.alloc o) := h.below ((Below.refl _ _).alloc (Nat.le_refl _) _)
theorem Tab.drewN {w : World} (h : Tab w) (n : Nat) : Tab (w.drewN n) := h
theorem below_grow (w : World) (k : Nat) (os : Array Obj) : Below w.heap.size w (Go.Sort.grow (w.drewN k) os) :=
  ⟨rfl, rfl, rfl, by simp [Go.Sort.grow], fun i hi => by show (w.heap ++ os)[i]? = _; rw [Array.getElem?_append_left hi]⟩

theorem itoa_b (n : Int) (h0 : 0 ≤ n) (h1 : n ≤ 1048576) (w : World) (ht : Tab w) :
    Calls Tryd.prog 53 #[.int .i64 n] w fun e w' => e = .returned (.string ⟨(Lib.itoa n).toArray⟩) ∧ Below w.heap.size w w' :=
  (Tryd.strconv_Itoa n (by omega) (by omega) w ht).mono fun e w' ⟨he, k, os, hw⟩ => ⟨he, by rw [hw]; exact below_grow w k os⟩

/-- A slice of strings' cells. -/
def strCells (xs : List Int) : List Value := xs.map fun n => .string ⟨(Lib.itoa n).toArray⟩
theorem strCells_snoc {xs : List Int} {k : Nat} {n : Int} (h : xs[k]? = some n) : strCells (xs.take (k + 1)) = strCells (xs.take k) ++ [.string ⟨(Lib.itoa n).toArray⟩] := by
  rw [strCells, take_snoc h, List.map_append]; rfl
theorem string_info : (Tryd.prog.info? 9).map (fun i => (i.zero, i.size, i.bytes)) = some (some (.string ⟨#[]⟩), 1, 16) := by kernel_rfl

theorem bytes_append (x y : List UInt8) : (⟨x.toArray⟩ : ByteArray) ++ ⟨y.toArray⟩ = ⟨(x ++ y).toArray⟩ := by
  apply ByteArray.ext
  simp
theorem ret_str3 (J : List UInt8) : Ending.returned (.string (((⟨#[91]⟩ : ByteArray) ++ ⟨J.toArray⟩) ++ ⟨#[93]⟩)) = .returned (.string ⟨(91 :: (J ++ [93])).toArray⟩) := by
  have h1 := bytes_append [91] J
  have h2 := bytes_append ([91] ++ J) [93]
  rw [← h1] at h2
  rw [show (⟨#[91]⟩ : ByteArray) = ⟨[91].toArray⟩ from rfl, show (⟨#[93]⟩ : ByteArray) = ⟨[93].toArray⟩ from rfl, h2]
  simp
/-- strings.Join over strings that the call itself has gathered. -/
theorem join_own {w : World} {base n : Nat} {v : Value} (l : List (List UInt8)) (sep : List UInt8) (z : Array UInt8) (hown : w.ownsRow base 9 1 v n (l.map fun x => .string ⟨x.toArray⟩)) (hl : l.length = n) (hn : n ≤ 140737488355328) (hlen : (Lib.join l sep).length ≤ 140737488355328) (hz : sep.toArray = z := by rfl) :
    Calls Tryd.prog 54 #[v, .string ⟨z⟩] w fun e w' => e = .returned (.string ⟨(Lib.join l sep).toArray⟩) ∧ Below w.heap.size w w' := by
  subst hz
  rcases hown.2 with ⟨rfl, rfl⟩ | ⟨g, cap, cur, rfl, _, hg, hnc, hcm, _, _⟩
  · refine (Tryd.strings_Join_none none 0 ⟨sep.toArray⟩ w).mono ?_
    rintro e w' ⟨rfl, rfl⟩
    rw [List.eq_nil_of_length_eq_zero hl]
    exact ⟨rfl, Below.refl _ _⟩
  · subst hl
    have he : (l.map fun x => (⟨x.toArray⟩ : ByteArray)).map (·.data.toList) = l := by rw [List.map_map]; exact List.map_id l
    have := Tryd.strings_Join g 0 cap (l.map fun x => ⟨x.toArray⟩) ⟨sep.toArray⟩ w (fun j x hx => by
        rw [List.getElem?_map] at hx
        cases hl : l[j]? with
        | none => rw [hl] at hx; cases hx
        | some u =>
          rw [hl] at hx; cases hx
          rw [Nat.zero_add, hown.cellAt j (by have := lt_of_get hl; omega), List.getElem?_map, hl]; rfl) (Array.getElem?_eq_some_iff.1 hg).1 (by rw [List.length_map]; exact hn) (by rw [List.length_map]; exact hnc) (by rw [he]; exact hlen)
    rw [List.length_map, he] at this
    exact this

set_option maxHeartbeats 1600000 in
set_option maxRecDepth 100000 in
theorem format_any (A : Option Addr) (m c : Nat) (xs : List Int) (w : World) (hr : RI w A m xs) (ht : Tab w) :
    Calls Tryd.prog 37 #[.slice A m c] w fun e w' => e = .returned (.string ⟨(fmtS xs).toArray⟩) ∧ Below w.heap.size w w' := by
  have hm := hr.le
  have hl := Lib.hid hr.len
  obtain ⟨i0, hi, hz0, hz1, hz2⟩ := info_parts string_info
  replace hi := Lib.hid hi; replace hz0 := Lib.hid hz0; replace hz1 := Lib.hid hz1; replace hz2 := Lib.hid hz2
  cases hv : validB xs with
  | false =>
    have h0 : Hid (fmtS xs = []) := by show _ = _; simp [fmtS, hv]
    replace hv := Lib.hid hv
    go_enter Tryd.func37, Tryd.ntmps37
    go_wp2_with (go_at_call 13; refine (valid_b _ _ _ _ _ hr _ hv.out).mono ?_; rintro e w' ⟨rfl, rfl⟩)
    go_ret
    exact ⟨ret_str (by rw [h0.out]), Below.refl _ _⟩
  | true =>
    have h5 : 1 ≤ m ∧ m ≤ 5 := by simp [validB] at hv; rw [← hl.out]; omega
    have hok : Hid (xs.all ok1 = true) := by show _ = _; simp only [validB, Bool.and_eq_true] at hv; exact hv.1.1
    have h0 : Hid (fmtS xs = 91 :: (numsT xs ++ [93])) := by show _ = _; simp [fmtS, hv]
    have hnl := Lib.hid (numsT_len hok.out)
    replace hv := Lib.hid hv
    go_enter Tryd.func37, Tryd.ntmps37
    go_wp2_with fail
    refine (valid_b _ _ _ _ _ hr _ hv.out).mono ?_; rintro e w' ⟨rfl, rfl⟩
    go_wp2_with fail
    go_loopw [3, 11] (fun v i wr => ∃ k : Nat, k ≤ m ∧ i = .int .i64 k ∧ wr.ownsRow w.heap.size 9 1 v k (strCells (xs.take k)) ∧ Below w.heap.size w wr) (fun _ i _ => m - (intOf i).toNat)
    case atStart => exact ⟨0, Nat.zero_le _, rfl, World.ownsRow_nil _ _ _ _, Below.refl _ _⟩
    case round =>
      obtain ⟨k, hk, rfl, hown, hbk⟩ := hrel
      by_cases hlt : k < m
      · obtain ⟨b, o, n, rfl, hx, hc⟩ := (hr.below hbk).at_ hlt
        have ⟨hn0, hn1⟩ := ok1_of (List.all_eq_true.1 hok.out n (List.mem_of_getElem? hx))
        have hst := Lib.hid (strCells_snoc hx)
        replace hx := Lib.hid hx; replace hown := Lib.hid hown
        go_wp2_with fail
        refine (itoa_b n hn0 (by omega) _ (ht.below hbk)).mono ?_; rintro e w1 ⟨rfl, hb1⟩
        have hown1 : Hid (World.ownsRow (w1.alloc (.cells #[.string ⟨(Lib.itoa n).toArray⟩] 9)) w.heap.size 9 1 u3 k (strCells (xs.take k))) := (own_below hown.out hb1).alloc _
        have hnew := Lib.hid (RC.lit w1 #[.string ⟨(Lib.itoa n).toArray⟩] 9)
        replace hbk := Lib.hid hbk; replace hb1 := Lib.hid hb1
        go_wp2_with (first
          | (at_builtin
             refine wpList_append_any _ rfl (.tmp 15) (.tmp 18) 63 rfl w.heap.size 9 i0 (.string ⟨#[]⟩) 1 16 Tryd.underlying63 hi.out hz0.out hz1.out hz2.out rfl (by omega) _ k _ rfl hown1.out _ 1 1 [.string ⟨(Lib.itoa n).toArray⟩] rfl rfl hnew.out (by intro u hu; simp at hu; subst hu; rfl) (by unfold maxLen; omega) (by omega) (by have h1 := hbk.out.size; have h2 := hb1.out.size; simp; omega) ?_
             intro v1 w2 hown2 hg2 hat2))
        have hbx : Below w.heap.size w w2 := ((hbk.out.trans (hb1.out.mono hbk.out.size)).alloc (Nat.le_trans hbk.out.size hb1.out.size) _).grown hg2 (by have h1 := hbk.out.size; have h2 := hb1.out.size; simp; omega) (fun j hj => (hown.out.lt j hj).1)
        rw [← hst.out] at hown2
        clear hg2 hat2 hown1 hnew
        go_wp2_with fail
        go_roundw
        case rel => exact ⟨k + 1, by omega, by go_num, hown2, hbx⟩
        case measure => simp [intOf]; omega
      · obtain rfl : k = m := by omega
        have hke : Hid (xs.take k = xs) := by show _ = _; exact List.take_of_length_le (by rw [hl.out]; omega)
        rw [hke.out] at hown
        have hj := join_own (xs.map Lib.itoa) [32] _ (by rw [List.map_map]; exact hown) (by rw [List.length_map, hl.out]) (by omega) (by have := hnl.out; rw [hl.out] at this; show (numsT xs).length ≤ _; omega)
        have hn5 : (numsT xs).length ≤ 25 := by have := hnl.out; rw [hl.out] at this; omega
        change Calls _ _ _ _ (fun e w' => e = .returned (.string ⟨(numsT xs).toArray⟩) ∧ _) at hj
        obtain ⟨J, hJ⟩ : ∃ J, numsT xs = J := ⟨_, rfl⟩
        rw [hJ] at hj hn5
        replace hJ := Lib.hid hJ; replace hj := Lib.hid hj
        clear hr hown
        go_wp2_with fail
        refine hj.out.mono ?_
        rintro e w2 ⟨rfl, hb2⟩
        go_wp2_with fail
        go_ret
        refine ⟨?_, hbk.trans (hb2.mono hbk.size)⟩
        rw [h0.out, hJ.out]
        exact ret_str3 J
end Go.Proofs.YtfdchnepaaampaaDoor
