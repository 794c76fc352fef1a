/- Law 52: new sessions; what the reference adds. No condition. -/
import Derived.Test.YtjdhnoffoknlnaaGreatDoorWV
import Derived.Test.YtjdhnoffoknlnaaGreatDoorWH
import Derived.Test.YtjdhnoffoknlnaaGreatDoorWM
namespace Go.Proofs.YtjdhnoffoknlnaaGreatDoor
set_option linter.unusedSimpArgs false
set_option linter.unusedVariables false
set_option linter.unusedSectionVars false
open Go.RowKit
set_option maxRecDepth 100000
set_option maxHeartbeats 4000000

def zs (n : Int) : List Int := List.replicate n.toNat 0
theorem zs_len {n : Int} (h : 1 ≤ n) : ((zs n).length : Int) = n := by simp [zs]; omega
theorem zs_valid {n : Int} (h0 : 1 ≤ n) (h1 : n ≤ 5) : validB (zs n) = true := by
  simp [validB, zs, ok1]; omega
theorem five {n : Int} (h0 : 1 ≤ n) (h1 : n ≤ 5) : n = 1 ∨ n = 2 ∨ n = 3 ∨ n = 4 ∨ n = 5 := by omega
theorem new_ok {n : Int} (h0 : 1 ≤ n) (h1 : n ≤ 5) : Cl cfg 9 [.t (.int .i64 n)] [] (.tup [.lp 0 0, .t (.int .i64 0)]) [sesB (zs n)] := by
  rcases five h0 h1 with rfl | rfl | rfl | rfl | rfl <;> exact ⟨12, by kernel_rfl⟩
theorem zero_bad {n : Int} (h : n < 1 ∨ 5 < n) : Cl cfg 29 [.t (.int .i64 n)] [] .nil [] := by
  refine Cl.of_body rfl Tryz.func29 rfl rfl rfl ?_
  repeat' (first
     | (with_reducible apply EvK.seq)
     | (with_reducible apply EvK.text)
     | (with_reducible apply EvK.ret)
     | (with_reducible apply thenK_r)
     | ((with_reducible apply EvK.cond_t); (case hc => exact rfl))
     | ((with_reducible apply EvO.spd) <;> intro hq)
     | ((with_reducible apply EvO.spd_yt); (case hp => first | assumption | omega))
     | (with_reducible apply EvO.nilT)
     | ((with_reducible apply EvO.gf); (case hW => exact rfl))
     | ((with_reducible apply EvO.gt0); (case hW => exact rfl); (case hx => first
        | ((with_reducible apply OpR.mv); (conv => lhs; whnf); try exact rfl)
        | exact OpR.r fun _ => rfl))
     | ((with_reducible apply EvO.u0); (case hx => first
        | ((with_reducible apply OpR.mv); (conv => lhs; whnf); try exact rfl)
        | ((with_reducible apply OpR.asg); (conv => lhs; whnf); try exact rfl)
        | ((with_reducible apply OpR.pk_t); (case hc => exact rfl); (case h => (conv => lhs; whnf); try exact rfl))
        | ((with_reducible apply OpR.pk_f); (case hc => exact rfl); (case h => (conv => lhs; whnf); try exact rfl))
        | exact OpR.r fun _ => rfl))
     | fail)
  all_goals first
    | exact ⟨.inr rfl, rfl⟩
    | (exfalso; omega)
theorem new_bad {n : Int} (h : n < 1 ∨ 5 < n) : Cl cfg 9 [.t (.int .i64 n)] [] (.tup [.t (.lit (.pointer none)), .t (.int .i64 1)]) [] := by
  refine Cl.of_body rfl Tryz.func9 rfl rfl rfl ?_
  have hv := valid_c (xs := []) (by simp)
  repeat' (first
     | (with_reducible apply EvK.seq)
     | (with_reducible apply EvK.text)
     | (with_reducible apply EvK.ret)
     | (with_reducible apply thenK_r)
     | ((with_reducible apply EvK.cond_t); (case hc => exact rfl))
     | (with_reducible apply EvO.nilT)
     | ((with_reducible apply EvO.u0); (case hx => first
        | ((with_reducible apply OpR.mv); (conv => lhs; whnf); try exact rfl)
        | ((with_reducible apply OpR.asg); (conv => lhs; whnf); try exact rfl)
        | ((with_reducible apply OpR.callF); (case hcal => exact rfl); (case hav => exact rfl); (case hx => exact rfl); (case hh => exact rfl); (case hm => exact rfl); (case hcl => exact zero_bad h); (case hr => exact rfl))
        | ((with_reducible apply OpR.callF); (case hcal => exact rfl); (case hav => exact rfl); (case hx => exact rfl); (case hh => exact rfl); (case hm => exact rfl); (case hcl => exact hv); (case hr => exact rfl))
        | exact OpR.r fun _ => rfl))
     | fail)
  exact ⟨.inr rfl, rfl⟩
def withS (c : List Int) (e : Ev) : List Int := List.zipWith max c (e.past.set e.r.toNat e.n)
theorem with_set {c p : List Int} {k : Nat} {x y n : Int} (hc : c[k]? = some x) (hp : p[k]? = some y) (hn : y ≤ n) : (List.zipWith max c p).set k (max (max x y) n) = List.zipWith max c (p.set k n) := by
  apply List.ext_getElem?
  intro j
  rw [List.getElem?_set]
  by_cases hj : k = j
  · subst hj
    have h1 := lt_of_get hc
    have h2 := lt_of_get hp
    rw [if_pos rfl, if_pos (by simp; omega), List.getElem?_zipWith, hc, List.getElem?_set_self h2]
    have : max (max x y) n = max x n := by omega
    rw [this]
  · rw [if_neg hj, List.getElem?_zipWith, List.getElem?_zipWith, List.getElem?_set_ne hj]
theorem with_c {c : List Int} {e : Ev} (hv : validB c = true) (hf : formB e = true) (hl : e.past.length = c.length) (hc : c.length ≤ 1000) : Cl cfg 27 [.t (intsA c), .t (evA e)] [] (.ls 0) [.row false false 1 (intsE (withS c e))] := by
  obtain ⟨h2, h3, h4, h5, h6⟩ := formB_ok hf
  have hab : alikeB [c, e.past] = true := by simp [alikeB, al1, hv, h2]; omega
  obtain ⟨x, hx⟩ := get_of_lt (xs := c) (k := e.r.toNat) (by omega)
  obtain ⟨y, hy⟩ := get_of_lt (xs := e.past) (k := e.r.toNat) (by omega)
  have hz : (List.zipWith max c e.past)[e.r.toNat]? = some (max x y) := by rw [List.getElem?_zipWith, hx, hy]
  have hk := intsE_get hz
  have hkl := lt_of_get hk
  have hln : (List.zipWith max c e.past).length = c.length := by simp; omega
  have hyn : y ≤ e.n := by
    simp [formB, headOk, betB] at hf
    have := hf.1.2.2.1
    rw [hy] at this
    simp at this
    omega
  have hs : (intsE (List.zipWith max c e.past)).set e.r.toNat [.int .i64 (max (max x y) e.n)] = intsE (withS c e) := by rw [intsE_set, with_set hx hy hyn]; rfl
  refine Cl.of_body rfl Tryz.func27 rfl rfl rfl ?_
  repeat' (first
     | (with_reducible apply EvK.seq)
     | (with_reducible apply EvK.text)
     | (with_reducible apply EvK.drawn)
     | (with_reducible apply EvK.ret)
     | ((with_reducible apply EvK.cond_t); (case hc => exact rfl))
     | ((with_reducible apply EvO.spd_t); (case hp => first | assumption | omega))
     | (with_reducible apply EvO.nilT)
     | ((with_reducible apply EvO.u0); (case hx => first
        | ((with_reducible apply OpR.mv); (conv => lhs; whnf); try exact rfl)
        | ((with_reducible apply OpR.asg); (conv => lhs; whnf); try exact rfl)
        | ((with_reducible apply OpR.sti); (case hs => exact fun _ => rfl); (case ha => exact rfl); (case hy => exact rfl); (case ht => exact rfl); (case hone => exact rfl); (case hn => kernel_rfl); (case hb => exact rfl); (case hk => exact hk); (case hj => exact rfl); (case hv => exact hs); (case hf => (repeat' (first | exact LEq.nil | ((with_reducible apply LEq.cons); (case h => (conv => lhs; whnf); try exact rfl)) | (apply LEq.cons; (case h => (conv => lhs; whnf); try exact rfl))))))
        | ((with_reducible apply OpR.callX); (case hcal => exact rfl); (case hav => exact rfl); (case hx => exact rfl); (case hh => exact rfl); (case hm => exact rfl); (case hcl => exact rjoin_c hab hc); (case hr => exact rfl); (case hd => exact rfl); (case hq => kernel_rfl); (case hn => (first | exact ln0 | exact ln1 | exact ln2 | exact ln3 | exact ln4 | exact ln5 | exact ln6 | exact ln7 | exact ln8 | exact ln9 | exact ln10 | exact ln11 | exact ln12 | exact ln13 | exact ln14)); (case hv => (conv => lhs; whnf); try exact rfl); (case he => (repeat' (first | exact XFr.nil | (with_reducible apply XFr.row) | (with_reducible apply XFr.boxt) | ((apply XFr.box); (case hd => (repeat' (first | exact LEq.nil | ((with_reducible apply LEq.cons); (case h => (conv => lhs; whnf); try exact rfl)) | (apply LEq.cons; (case h => (conv => lhs; whnf); try exact rfl))))))))); (case hf => (repeat' (first | exact LEq.nil | ((with_reducible apply LEq.cons); (case h => (conv => lhs; whnf); try exact rfl)) | (apply LEq.cons; (case h => (conv => lhs; whnf); try exact rfl))))))
        | ((with_reducible apply OpR.len); (case ha => exact rfl); (case hy => exact rfl); (case ht => exact rfl); (case hs => exact rfl); (case hn => first | exact List.length_map _ | exact rfl))
        | ((with_reducible apply OpR.fal); (case hy => exact rfl); (case ho => exact rfl); (case hn => (conv => lhs; whnf); try exact rfl))
        | ((with_reducible apply OpR.bxt); (case hs => exact fun _ => rfl); (case hy => exact rfl); (case ho => kernel_rfl); (case hn => (first | exact ln0 | exact ln1 | exact ln2 | exact ln3 | exact ln4 | exact ln5 | exact ln6 | exact ln7 | exact ln8 | exact ln9 | exact ln10 | exact ln11 | exact ln12 | exact ln13 | exact ln14)); (case hf => (repeat' (first | exact LEq.nil | ((with_reducible apply LEq.cons); (case h => (conv => lhs; whnf); try exact rfl)) | (apply LEq.cons; (case h => (conv => lhs; whnf); try exact rfl))))))
        | ((with_reducible apply OpR.ixrm); (case he => first | (with_reducible exact el0) | (with_reducible exact el1) | (with_reducible exact el2) | (with_reducible exact el3) | (with_reducible exact el4) | (with_reducible exact el5) | (with_reducible exact el6) | (with_reducible exact el7) | exact rfl); (case hx => exact rfl); (case hi => exact rfl); (case hb => exact rfl); (case h0 => first | assumption | omega); (case hq => first | assumption | omega))
        | ((with_reducible apply OpR.ldi); (case hy => exact rfl); (case ht => exact rfl); (case hb => exact rfl); (case hk => assumption))
        | exact OpR.r fun _ => rfl))
     | fail)
  exact ⟨.inr rfl, rfl⟩
end Go.Proofs.YtjdhnoffoknlnaaGreatDoor
