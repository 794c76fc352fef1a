/- Law 52: the program's Check. No condition. -/
import Derived.Test.YtjdhnoffoknlnaaGreatDoorWK
import Derived.Test.YtjdhnoffoknlnaaGreatDoorTC
namespace Go.Proofs.YtjdhnoffoknlnaaGreatDoor
set_option linter.unusedSimpArgs false
set_option linter.unusedVariables false
set_option linter.unusedSectionVars false
open Go.RowKit
set_option maxRecDepth 100000
set_option maxHeartbeats 4000000

def gAct (q : Nat) : Bool := Nat.ble 2 q
def gBef : Nat → Bool
  | 1 => true
  | 2 => true
  | _ => false
def gBrk : Nat → SAct → SAct → Bool
  | 0 => brk1
  | 1 => brk2
  | 2 => brk3
  | _ => brk4
def gHit (p : List SAct) (a : SAct) (j : Nat) : Bool := (gAct j == a.wr) && p.any (gBrk j a)
def gCode (p : List SAct) (a : SAct) : Int := if gHit p a 0 then 1 else if gHit p a 1 then 2 else if gHit p a 2 then 3 else if gHit p a 3 then 4 else 0
def goS (n : Int) : List SAct → List SAct → Int × Int
  | _, [] => (0, -1)
  | p, a :: r => if properB a n then (if gCode p a = 0 then goS n (p ++ [a]) r else (gCode p a, p.length)) else (0, p.length)
def checkS (n : Int) (l : List SAct) : Int × Int := if n < 1 ∨ 5 < n then (0, 0) else goS n [] l
theorem goS_cons (n : Int) (p : List SAct) (a : SAct) (r : List SAct) : goS n p (a :: r) = if properB a n then (if gCode p a = 0 then goS n (p ++ [a]) r else (gCode p a, p.length)) else (0, p.length) := rfl
theorem gEs_get {q : Nat} (h : q < 4) : gEs[q]? = some [.int .i64 ((q : Int) + 1), .bool (gAct q), .bool (gBef q), gFn q] := by
  match q, h with
  | 0, _ => rfl
  | 1, _ => rfl
  | 2, _ => rfl
  | 3, _ => rfl
theorem check_g {q : Nat} (h : q < 4) (a b : SAct) (ha : a.cl.length ≤ 140737488351232) (hp : a.ev.past.length ≤ 140737488351232) (hb : b.cl.length ≤ 140737488351232) : Cl cfg 47 [.t (actA b), .t (.tp [.int .i64 ((q : Int) + 1), .bool (gAct q), .bool (gBef q), gFn q]), .t (.tp (actCs a))] [] (.t (.bool (gBrk q a b))) [] := by
  match q, h with
  | 0, _ => exact check1_c a b ha hb
  | 1, _ => exact check2_c a b ha
  | 2, _ => exact check3_c a b hp
  | 3, _ => exact check4_c a b hp hb
theorem gCode_hit {p : List SAct} {a : SAct} {q : Nat} (hq : q < 4) (h1 : ∀ j < q, gHit p a j = false) (h2 : gHit p a q = true) : gCode p a = (q : Int) + 1 := by
  match q, hq with
  | 0, _ => simp [gCode, h2]
  | 1, _ => simp [gCode, h2, h1 0 (by omega)]
  | 2, _ => simp [gCode, h2, h1 0 (by omega), h1 1 (by omega)]
  | 3, _ => simp [gCode, h2, h1 0 (by omega), h1 1 (by omega), h1 2 (by omega)]
theorem gCode_none {p : List SAct} {a : SAct} (h1 : ∀ j < 4, gHit p a j = false) : gCode p a = 0 := by
  simp [gCode, h1 0 (by omega), h1 1 (by omega), h1 2 (by omega), h1 3 (by omega)]
theorem all_lt {P : Nat → Prop} {q : Nat} (h : ∀ j < q, P j) (hq : P q) : ∀ j < q + 1, P j := fun j hj => by
  rcases Nat.lt_or_ge j q with h1 | h1
  · exact h j h1
  · obtain rfl : j = q := by omega
    exact hq
theorem okacts (l : List SAct) : okSz 15 (actsE l) = true := by
  cases l with
  | nil => rfl
  | cons a l => rfl
theorem takeacts (l : List SAct) (k : Nat) : (actsE l).take k = actsE (l.take k) := by simp [actsE, List.map_take]
theorem actsE_len (l : List SAct) : (actsE l).length = l.length := by simp [actsE]

theorem scheck_c (n : Int) (l : List SAct) (hl : l.length ≤ 140737488351232) (hc : ∀ a ∈ l, a.cl.length ≤ 140737488351232 ∧ a.ev.past.length ≤ 140737488351232) : Cl cfg 28 [.t (.int .i64 n), .t (actsA l)] [] (.tup [.t (.int .i64 (checkS n l).1), .t (.int .i64 (checkS n l).2)]) [] := by
  refine Cl.of_body rfl Tryz.func28 rfl rfl rfl ?_
  by_cases hn : n < 1 ∨ 5 < n
  ·
    have hs : checkS n l = (0, 0) := if_pos hn
    repeat' (first
       | (with_reducible apply EvK.seq)
       | (with_reducible apply EvK.text)
       | (with_reducible apply EvK.ret)
       | (with_reducible apply thenK_r)
       | ((with_reducible apply EvK.cond_t); (case hc => exact rfl))
       | ((with_reducible apply EvO.spd) <;> intro hq)
       | ((with_reducible apply EvO.spd_yt); (case hp => first | assumption | omega))
       | (with_reducible apply EvO.nilT)
       | ((with_reducible apply EvO.gf); (case hW => exact rfl))
       | ((with_reducible apply EvO.gt0); (case hW => exact rfl); (case hx => first
          | ((with_reducible apply OpR.mv); (conv => lhs; whnf); try exact rfl)
          | exact OpR.r fun _ => rfl))
       | ((with_reducible apply EvO.u0); (case hx => first
          | ((with_reducible apply OpR.mv); (conv => lhs; whnf); try exact rfl)
          | ((with_reducible apply OpR.asg); (conv => lhs; whnf); try exact rfl)
          | ((with_reducible apply OpR.pk_t); (case hc => exact rfl); (case h => (conv => lhs; whnf); try exact rfl))
          | ((with_reducible apply OpR.pk_f); (case hc => exact rfl); (case h => (conv => lhs; whnf); try exact rfl))
          | exact OpR.r fun _ => rfl))
       | fail)
    all_goals first
      | (refine fin_ii (.inr rfl) rfl ?_; rw [hs]; exact ⟨rfl, rfl⟩)
      | (exfalso; omega)
  ·
    have hs : checkS n l = goS n [] l := if_neg hn
    rw [hs]
    have hn1 : ¬ n < 1 := fun h => hn (.inl h)
    have hn2 : ¬ n > 5 := fun h => hn (.inr h)
    repeat' (first
       | (with_reducible apply EvK.seq)
       | (with_reducible apply EvK.block)
       | (with_reducible apply EvK.text)
       | (with_reducible apply EvK.skip)
       | (with_reducible apply thenK_n)
       | ((with_reducible apply EvK.cond_f); (case hc => exact rfl))
       | ((with_reducible apply EvO.spd_f); (case hp => first | assumption | omega))
       | ((with_reducible apply EvO.spd_yf); (case hp => first | assumption | omega))
       | (with_reducible apply EvO.nilT)
       | ((with_reducible apply EvO.gt0); (case hW => exact rfl); (case hx => first
          | ((with_reducible apply OpR.mv); (conv => lhs; whnf); try exact rfl)
          | exact OpR.r fun _ => rfl))
       | ((with_reducible apply EvO.u0); (case hx => first
          | ((with_reducible apply OpR.mv); (conv => lhs; whnf); try exact rfl)
          | ((with_reducible apply OpR.asg); (conv => lhs; whnf); try exact rfl)
          | ((with_reducible apply OpR.pk_f); (case hc => exact rfl); (case h => (conv => lhs; whnf); try exact rfl))
          | ((with_reducible apply OpR.len); (case ha => exact rfl); (case hy => exact rfl); (case ht => exact rfl); (case hs => exact rfl); (case hn => first | exact List.length_map _ | exact rfl))
          | exact OpR.r fun _ => rfl))
       | fail)
    apply EvK.loopV
    case ho => exact rfl
    case hp => exact rfl
    case hl => exact rfl
    case hs => repeat' (first | exact Slots.nil | (apply Slots.cons; (case hv => (conv => lhs; whnf); try exact rfl)))
    refine EvL.ind (fun q : Nat => [(18, .t (.int .i64 (q : Int)))]) (fun q => q ≤ l.length ∧ goS n [] l = goS n (l.take q) (l.drop q)) (fun q => l.length - q) 0 rfl (by simp) (fun q hq => ?_)
    obtain ⟨h1, h2⟩ := hq
    rcases Nat.lt_or_ge q l.length with h3 | h3
    ·
      obtain ⟨a, ha⟩ := get_of_lt h3
      have hac := actsE_get ha
      obtain ⟨hlc, hlp⟩ := hc a (List.mem_of_getElem? ha)
      have hpc := proper_c a n hlc hlp
      rw [drop_at ha, goS_cons, List.length_take_of_le (Nat.le_of_lt h3)] at h2
      repeat' (first
         | (with_reducible apply EvK.seq)
         | (with_reducible apply EvK.block)
         | (with_reducible apply EvK.text)
         | (with_reducible apply EvK.skip)
         | (with_reducible apply EvK.ret)
         | (with_reducible apply thenK_n)
         | (with_reducible apply thenK_r)
         | (with_reducible apply blockK_r)
         | ((with_reducible apply EvK.cond_t); (case hc => exact rfl))
         | ((with_reducible apply EvK.cond_f); (case hc => exact rfl))
         | ((with_reducible apply EvO.spd_t); (case hp => first | assumption | omega))
         | ((with_reducible apply EvO.spb (b := properB _ _)) <;> intro hq)
         | (with_reducible apply EvO.nilT)
         | ((with_reducible apply EvO.u0); (case hx => first
            | ((with_reducible apply OpR.mv); (conv => lhs; whnf); try exact rfl)
            | ((with_reducible apply OpR.asg); (conv => lhs; whnf); try exact rfl)
            | ((with_reducible apply OpR.callF); (case hcal => exact rfl); (case hav => exact rfl); (case hx => exact rfl); (case hh => exact rfl); (case hm => exact rfl); (case hcl => exact hpc); (case hr => exact rfl))
            | ((with_reducible apply OpR.callN); (case hcal => exact rfl); (case hav => exact rfl); (case hx => exact rfl); (case hh => exact rfl); (case hm => exact rfl); (case hcl => exact guarantees_c); (case hn => exact rfl); (case hr => exact rfl))
            | ((with_reducible apply OpR.len); (case ha => exact rfl); (case hy => exact rfl); (case ht => exact rfl); (case hs => exact rfl); (case hn => first | exact List.length_map _ | exact rfl))
            | ((with_reducible apply OpR.ix); (case he => first | (with_reducible exact el0) | (with_reducible exact el1) | (with_reducible exact el2) | (with_reducible exact el3) | (with_reducible exact el4) | (with_reducible exact el5) | (with_reducible exact el6) | (with_reducible exact el7) | exact rfl); (case hx => exact rfl); (case hi => exact rfl); (case hc => assumption); (case hz => exact rfl))
            | ((with_reducible apply OpR.al); (case hs => exact fun _ => rfl); (case hz => exact rfl); (case hc => (repeat' (first | exact LEq.nil | ((with_reducible apply LEq.cons); (case h => (conv => lhs; whnf); try exact rfl)) | (apply LEq.cons; (case h => (conv => lhs; whnf); try exact rfl))))); (case hn => (first | exact ln0 | exact ln1 | exact ln2 | exact ln3 | exact ln4 | exact ln5 | exact ln6 | exact ln7 | exact ln8 | exact ln9 | exact ln10 | exact ln11 | exact ln12 | exact ln13 | exact ln14)); (case hf => (repeat' (first | exact LEq.nil | ((with_reducible apply LEq.cons); (case h => (conv => lhs; whnf); try exact rfl)) | (apply LEq.cons; (case h => (conv => lhs; whnf); try exact rfl))))))
            | ((with_reducible apply OpR.stw); (case hs => exact fun _ => rfl); (case ha => exact rfl); (case hy => exact rfl); (case ht => first | (with_reducible exact sz0) | (with_reducible exact sz1) | (with_reducible exact sz2) | (with_reducible exact sz3) | (with_reducible exact sz4) | (with_reducible exact sz5) | (with_reducible exact sz6) | (with_reducible exact sz7) | (with_reducible exact sz8) | (with_reducible exact sz9) | exact rfl); (case ho => kernel_rfl); (case hl => kernel_rfl); (case hb => exact rfl); (case hc => kernel_rfl); (case hf => (repeat' (first | exact LEq.nil | ((with_reducible apply LEq.cons); (case h => (conv => lhs; whnf); try exact rfl)) | (apply LEq.cons; (case h => (conv => lhs; whnf); try exact rfl))))))
            | ((with_reducible apply OpR.ldw); (case hy => exact rfl); (case ht => first | (with_reducible exact sz0) | (with_reducible exact sz1) | (with_reducible exact sz2) | (with_reducible exact sz3) | (with_reducible exact sz4) | (with_reducible exact sz5) | (with_reducible exact sz6) | (with_reducible exact sz7) | (with_reducible exact sz8) | (with_reducible exact sz9)); (case hb => exact rfl); (case hl => kernel_rfl))
            | exact OpR.r fun _ => rfl))
         | fail)
      ·
        have hpr := hq
        apply EvK.loopV
        case ho => exact rfl
        case hp => exact rfl
        case hl => exact rfl
        case hs => repeat' (first | exact Slots.nil | (apply Slots.cons; (case hv => (conv => lhs; whnf); try exact rfl)))
        refine EvL.ind (fun j : Nat => [(30, .t (.int .i64 (j : Int)))]) (fun j => j ≤ 4 ∧ ∀ i < j, gHit (l.take q) a i = false) (fun j => 4 - j) 0 rfl (by simp) (fun j hj => ?_)
        obtain ⟨g1, g2⟩ := hj
        have hgl : gEs.length = 4 := rfl
        rcases Nat.lt_or_ge j 4 with g3 | g3
        ·
          have hgl : gEs.length = 4 := rfl
          have hgc := gEs_get g3
          have hcc := conact_c (xs := l.take q) (F := 47) (p := gBrk j a) (c1 := .tp [.int .i64 ((j : Int) + 1), .bool (gAct j), .bool (gBef j), gFn j]) (c2 := .tp (actCs a)) (by simp; omega) (fun b hb => check_g g3 a b hlc hlp (hc b (List.mem_of_mem_take hb)).1)
          repeat' (first
             | (with_reducible apply EvK.seq)
             | (with_reducible apply EvK.block)
             | (with_reducible apply EvK.text)
             | (with_reducible apply EvK.skip)
             | (with_reducible apply EvK.ret)
             | (with_reducible apply thenK_n)
             | (with_reducible apply thenK_r)
             | (with_reducible apply blockK_n)
             | (with_reducible apply blockK_r)
             | ((with_reducible apply EvK.cond_t); (case hc => exact rfl))
             | ((with_reducible apply EvK.cond_f); (case hc => exact rfl))
             | ((with_reducible apply EvO.spd_t); (case hp => first | assumption | omega))
             | ((with_reducible apply EvO.spb (b := gAct _)) <;> intro hq)
             | ((with_reducible apply EvO.spb (b := SAct.wr _)) <;> intro hq)
             | ((with_reducible apply EvO.spb_y (b := List.any _ _)) <;> intro hq)
             | (with_reducible apply EvO.nilT)
             | ((with_reducible apply EvO.gf); (case hW => exact rfl))
             | ((with_reducible apply EvO.gt0); (case hW => exact rfl); (case hx => first
                | ((with_reducible apply OpR.mv); (conv => lhs; whnf); try exact rfl)
                | ((with_reducible apply OpR.slh); (case he => exact rfl); (case hx => exact rfl); (case hi => exact rfl); (case hn => (rw [actsE_len]; omega)); (case hz => exact okacts _); (case hv => exact takeacts _ _))
                | ((with_reducible apply OpR.callF); (case hcal => exact rfl); (case hav => exact rfl); (case hx => exact rfl); (case hh => exact rfl); (case hm => exact rfl); (case hcl => exact hcc); (case hr => exact rfl))
                | exact OpR.r fun _ => rfl))
             | ((with_reducible apply EvO.u0); (case hx => first
                | ((with_reducible apply OpR.mv); (conv => lhs; whnf); try exact rfl)
                | ((with_reducible apply OpR.asg); (conv => lhs; whnf); try exact rfl)
                | ((with_reducible apply OpR.pk_t); (case hc => exact rfl); (case h => (conv => lhs; whnf); try exact rfl))
                | ((with_reducible apply OpR.pk_f); (case hc => exact rfl); (case h => (conv => lhs; whnf); try exact rfl))
                | ((with_reducible apply OpR.inc); (case hx => exact rfl); (case hy => exact rfl); (case h => omega))
                | ((with_reducible apply OpR.ixt); (case he => first | (with_reducible exact el0) | (with_reducible exact el1) | (with_reducible exact el2) | (with_reducible exact el3) | (with_reducible exact el4) | (with_reducible exact el5) | (with_reducible exact el6) | (with_reducible exact el7) | exact rfl); (case hx => exact rfl); (case hi => exact rfl); (case hc => assumption); (case hz => exact rfl))
                | ((with_reducible apply OpR.fal); (case hy => exact rfl); (case ho => exact rfl); (case hn => (conv => lhs; whnf); try exact rfl))
                | ((with_reducible apply OpR.al); (case hs => exact fun _ => rfl); (case hz => exact rfl); (case hc => (repeat' (first | exact LEq.nil | ((with_reducible apply LEq.cons); (case h => (conv => lhs; whnf); try exact rfl)) | (apply LEq.cons; (case h => (conv => lhs; whnf); try exact rfl))))); (case hn => (first | exact ln0 | exact ln1 | exact ln2 | exact ln3 | exact ln4 | exact ln5 | exact ln6 | exact ln7 | exact ln8 | exact ln9 | exact ln10 | exact ln11 | exact ln12 | exact ln13 | exact ln14)); (case hf => (repeat' (first | exact LEq.nil | ((with_reducible apply LEq.cons); (case h => (conv => lhs; whnf); try exact rfl)) | (apply LEq.cons; (case h => (conv => lhs; whnf); try exact rfl))))))
                | ((with_reducible apply OpR.stw); (case hs => exact fun _ => rfl); (case ha => exact rfl); (case hy => exact rfl); (case ht => first | (with_reducible exact sz0) | (with_reducible exact sz1) | (with_reducible exact sz2) | (with_reducible exact sz3) | (with_reducible exact sz4) | (with_reducible exact sz5) | (with_reducible exact sz6) | (with_reducible exact sz7) | (with_reducible exact sz8) | (with_reducible exact sz9) | exact rfl); (case ho => kernel_rfl); (case hl => kernel_rfl); (case hb => exact rfl); (case hc => kernel_rfl); (case hf => (repeat' (first | exact LEq.nil | ((with_reducible apply LEq.cons); (case h => (conv => lhs; whnf); try exact rfl)) | (apply LEq.cons; (case h => (conv => lhs; whnf); try exact rfl))))))
                | exact OpR.r fun _ => rfl))
             | fail)
          all_goals first
            | (refine fin_ii (.inr rfl) rfl ?_)
            | (refine ⟨j + 1, rfl, rfl, ⟨by omega, all_lt g2 ?_⟩, by omega⟩)
          all_goals first
            | (simp [gHit, *]; done)
            | (have hh : gHit (l.take q) a j = true := by simp [gHit, *]
               rw [h2, if_pos hpr, gCode_hit g3 g2 hh, if_neg (by omega)]
               exact ⟨rfl, rfl⟩)
        ·
          have hz : gCode (l.take q) a = 0 := gCode_none fun i hi => g2 i (by omega)
          repeat' (first
             | (with_reducible apply EvK.seq)
             | (with_reducible apply EvK.text)
             | (with_reducible apply EvK.exit)
             | (with_reducible apply thenK_n)
             | (with_reducible apply thenK_e)
             | (with_reducible apply blockK_n)
             | (with_reducible apply blockK_h)
             | ((with_reducible apply EvK.cond_f); (case hc => exact rfl))
             | ((with_reducible apply EvO.spd_f); (case hp => first | assumption | omega))
             | (with_reducible apply EvO.nilT)
             | ((with_reducible apply EvO.u0); (case hx => first
                | ((with_reducible apply OpR.mv); (conv => lhs; whnf); try exact rfl)
                | ((with_reducible apply OpR.inc); (case hx => exact rfl); (case hy => exact rfl); (case h => omega))
                | exact OpR.r fun _ => rfl))
             | fail)
          refine ⟨q + 1, rfl, rfl, ⟨by omega, ?_⟩, by omega⟩
          rw [h2, if_pos hpr, if_pos hz, List.take_add_one, ha]
          rfl
      ·
        refine fin_ii (.inr rfl) rfl ?_
        rw [h2, if_neg (by rw [hq]; decide)]
        exact ⟨rfl, rfl⟩
    ·
      rw [List.drop_of_length_le h3] at h2
      repeat' (first
         | (with_reducible apply EvK.seq)
         | (with_reducible apply EvK.text)
         | (with_reducible apply EvK.exit)
         | (with_reducible apply EvK.ret)
         | (with_reducible apply thenK_n)
         | (with_reducible apply thenK_e)
         | (with_reducible apply blockK_h)
         | ((with_reducible apply EvK.cond_f); (case hc => exact rfl))
         | ((with_reducible apply EvO.spd_f); (case hp => first | assumption | omega))
         | (with_reducible apply EvO.nilT)
         | ((with_reducible apply EvO.u0); (case hx => first
            | ((with_reducible apply OpR.asg); (conv => lhs; whnf); try exact rfl)
            | exact OpR.r fun _ => rfl))
         | fail)
      all_goals (refine fin_ii (.inr rfl) rfl ?_; rw [h2]; exact ⟨rfl, rfl⟩)
end Go.Proofs.YtjdhnoffoknlnaaGreatDoor
