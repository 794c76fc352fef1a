/- Law 52: the guarantees, and the program's Check. No condition. -/
import Derived.Test.YtjdhnoffoknlnaaGreatDoorWJ
namespace Go.Proofs.YtjdhnoffoknlnaaGreatDoor
set_option linter.unusedSimpArgs false
set_option linter.unusedVariables false
set_option linter.unusedSectionVars false
open Go.RowKit
set_option maxRecDepth 100000
set_option maxHeartbeats 4000000

abbrev capName : AV := .tp [.fn (.func 60) 0 []]
def gF : Nat → Nat
  | 0 => 61
  | 1 => 62
  | 2 => 64
  | _ => 65
def gC : Nat → List AV
  | 1 => [capName]
  | 2 => [capName]
  | _ => []
def gFn (q : Nat) : AV := .fn (.func (gF q)) 0 (gC q)
def gEs : List (List AV) := [[.int .i64 1, .bool false, .bool false, gFn 0], [.int .i64 2, .bool false, .bool true, gFn 1], [.int .i64 3, .bool true, .bool true, gFn 2], [.int .i64 4, .bool true, .bool false, gFn 3]]
theorem guarantees_c : Cl cfg 45 [] [] (.tc gEs) [] := ⟨3, by kernel_rfl⟩
def contB (a b : List Int) : Bool := alikeB [a, b] && insideB b a
def brk1 (a b : SAct) : Bool := !b.wr && !contB a.cl b.cl
def brk2 (a b : SAct) : Bool := b.wr && !hasS a.cl b.ev.r b.ev.n
def brk3 (a b : SAct) : Bool := b.wr && !hasS a.ev.past b.ev.r b.ev.n
def brk4 (a b : SAct) : Bool := !b.wr && !contB a.ev.past b.cl
section
variable (a b : SAct)
theorem check1_c (ha : a.cl.length ≤ 140737488351232) (hb : b.cl.length ≤ 140737488351232) : Cl cfg 47 [.t (actA b), .t (.tp [.int .i64 1, .bool false, .bool false, gFn 0]), .t (.tp (actCs a))] [] (.t (.bool (brk1 a b))) [] := by
  refine Cl.of_body rfl Tryz.func47 rfl rfl rfl ?_
  repeat' (first
     | (with_reducible apply EvK.seq)
     | (with_reducible apply EvK.text)
     | (with_reducible apply EvK.ret)
     | ((with_reducible apply EvO.spb (b := SAct.wr _)) <;> intro hq)
     | ((with_reducible apply EvO.spb_y (b := _ && _)) <;> intro hq)
     | (with_reducible apply EvO.nilT)
     | ((with_reducible apply EvO.gf); (case hW => exact rfl))
     | ((with_reducible apply EvO.gt0); (case hW => exact rfl); (case hx => first
        | ((with_reducible apply OpR.callF); (case hcal => exact rfl); (case hav => exact rfl); (case hx => exact rfl); (case hh => exact rfl); (case hm => exact rfl); (case hcl => exact kept1_c a b ha hb); (case hr => exact rfl))
        | ((with_reducible apply OpR.ldw); (case hy => exact rfl); (case ht => first | (with_reducible exact sz0) | (with_reducible exact sz1) | (with_reducible exact sz2) | (with_reducible exact sz3) | (with_reducible exact sz4) | (with_reducible exact sz5) | (with_reducible exact sz6) | (with_reducible exact sz7) | (with_reducible exact sz8) | (with_reducible exact sz9)); (case hb => exact rfl); (case hl => kernel_rfl))
        | exact OpR.r fun _ => rfl))
     | ((with_reducible apply EvO.u0); (case hx => first
        | ((with_reducible apply OpR.mv); (conv => lhs; whnf); try exact rfl)
        | ((with_reducible apply OpR.asg); (conv => lhs; whnf); try exact rfl)
        | ((with_reducible apply OpR.pk_t); (case hc => exact rfl); (case h => (conv => lhs; whnf); try exact rfl))
        | ((with_reducible apply OpR.pk_f); (case hc => exact rfl); (case h => (conv => lhs; whnf); try exact rfl))
        | ((with_reducible apply OpR.fal); (case hy => exact rfl); (case ho => exact rfl); (case hn => (conv => lhs; whnf); try exact rfl))
        | ((with_reducible apply OpR.bxt); (case hs => exact fun _ => rfl); (case hy => exact rfl); (case ho => kernel_rfl); (case hn => (first | exact ln0 | exact ln1 | exact ln2 | exact ln3 | exact ln4 | exact ln5 | exact ln6 | exact ln7 | exact ln8 | exact ln9 | exact ln10 | exact ln11 | exact ln12 | exact ln13 | exact ln14)); (case hf => (repeat' (first | exact LEq.nil | ((with_reducible apply LEq.cons); (case h => (conv => lhs; whnf); try exact rfl)) | (apply LEq.cons; (case h => (conv => lhs; whnf); try exact rfl))))))
        | exact OpR.r fun _ => rfl))
     | fail)
  all_goals (refine fin_b (.inr rfl) rfl ?_; first | (rw [brk1, contB, hq]; simp only [*]; rfl) | simp_all [brk1])
theorem check2_c (ha : a.cl.length ≤ 140737488351232) : Cl cfg 47 [.t (actA b), .t (.tp [.int .i64 2, .bool false, .bool true, gFn 1]), .t (.tp (actCs a))] [] (.t (.bool (brk2 a b))) [] := by
  refine Cl.of_body rfl Tryz.func47 rfl rfl rfl ?_
  repeat' (first
     | (with_reducible apply EvK.seq)
     | (with_reducible apply EvK.text)
     | (with_reducible apply EvK.ret)
     | ((with_reducible apply EvO.spb (b := SAct.wr _)) <;> intro hq)
     | ((with_reducible apply EvO.spb_y (b := hasS _ _ _)) <;> intro hq)
     | (with_reducible apply EvO.nilT)
     | ((with_reducible apply EvO.gf); (case hW => exact rfl))
     | ((with_reducible apply EvO.gt0); (case hW => exact rfl); (case hx => first
        | ((with_reducible apply OpR.callF); (case hcal => exact rfl); (case hav => exact rfl); (case hx => exact rfl); (case hh => exact rfl); (case hm => exact rfl); (case hcl => exact kept2_c a b ha); (case hr => exact rfl))
        | ((with_reducible apply OpR.ldw); (case hy => exact rfl); (case ht => first | (with_reducible exact sz0) | (with_reducible exact sz1) | (with_reducible exact sz2) | (with_reducible exact sz3) | (with_reducible exact sz4) | (with_reducible exact sz5) | (with_reducible exact sz6) | (with_reducible exact sz7) | (with_reducible exact sz8) | (with_reducible exact sz9)); (case hb => exact rfl); (case hl => kernel_rfl))
        | exact OpR.r fun _ => rfl))
     | ((with_reducible apply EvO.u0); (case hx => first
        | ((with_reducible apply OpR.mv); (conv => lhs; whnf); try exact rfl)
        | ((with_reducible apply OpR.asg); (conv => lhs; whnf); try exact rfl)
        | ((with_reducible apply OpR.pk_t); (case hc => exact rfl); (case h => (conv => lhs; whnf); try exact rfl))
        | ((with_reducible apply OpR.pk_f); (case hc => exact rfl); (case h => (conv => lhs; whnf); try exact rfl))
        | ((with_reducible apply OpR.fal); (case hy => exact rfl); (case ho => exact rfl); (case hn => (conv => lhs; whnf); try exact rfl))
        | ((with_reducible apply OpR.bxt); (case hs => exact fun _ => rfl); (case hy => exact rfl); (case ho => kernel_rfl); (case hn => (first | exact ln0 | exact ln1 | exact ln2 | exact ln3 | exact ln4 | exact ln5 | exact ln6 | exact ln7 | exact ln8 | exact ln9 | exact ln10 | exact ln11 | exact ln12 | exact ln13 | exact ln14)); (case hf => (repeat' (first | exact LEq.nil | ((with_reducible apply LEq.cons); (case h => (conv => lhs; whnf); try exact rfl)) | (apply LEq.cons; (case h => (conv => lhs; whnf); try exact rfl))))))
        | exact OpR.r fun _ => rfl))
     | fail)
  all_goals (refine fin_b (.inr rfl) rfl ?_; simp_all [brk2])
theorem check3_c (ha : a.ev.past.length ≤ 140737488351232) : Cl cfg 47 [.t (actA b), .t (.tp [.int .i64 3, .bool true, .bool true, gFn 2]), .t (.tp (actCs a))] [] (.t (.bool (brk3 a b))) [] := by
  refine Cl.of_body rfl Tryz.func47 rfl rfl rfl ?_
  repeat' (first
     | (with_reducible apply EvK.seq)
     | (with_reducible apply EvK.text)
     | (with_reducible apply EvK.ret)
     | ((with_reducible apply EvO.spb (b := SAct.wr _)) <;> intro hq)
     | ((with_reducible apply EvO.spb_y (b := hasS _ _ _)) <;> intro hq)
     | (with_reducible apply EvO.nilT)
     | ((with_reducible apply EvO.gf); (case hW => exact rfl))
     | ((with_reducible apply EvO.gt0); (case hW => exact rfl); (case hx => first
        | ((with_reducible apply OpR.callF); (case hcal => exact rfl); (case hav => exact rfl); (case hx => exact rfl); (case hh => exact rfl); (case hm => exact rfl); (case hcl => exact kept3_c a b ha); (case hr => exact rfl))
        | ((with_reducible apply OpR.ldw); (case hy => exact rfl); (case ht => first | (with_reducible exact sz0) | (with_reducible exact sz1) | (with_reducible exact sz2) | (with_reducible exact sz3) | (with_reducible exact sz4) | (with_reducible exact sz5) | (with_reducible exact sz6) | (with_reducible exact sz7) | (with_reducible exact sz8) | (with_reducible exact sz9)); (case hb => exact rfl); (case hl => kernel_rfl))
        | exact OpR.r fun _ => rfl))
     | ((with_reducible apply EvO.u0); (case hx => first
        | ((with_reducible apply OpR.mv); (conv => lhs; whnf); try exact rfl)
        | ((with_reducible apply OpR.asg); (conv => lhs; whnf); try exact rfl)
        | ((with_reducible apply OpR.pk_t); (case hc => exact rfl); (case h => (conv => lhs; whnf); try exact rfl))
        | ((with_reducible apply OpR.pk_f); (case hc => exact rfl); (case h => (conv => lhs; whnf); try exact rfl))
        | ((with_reducible apply OpR.fal); (case hy => exact rfl); (case ho => exact rfl); (case hn => (conv => lhs; whnf); try exact rfl))
        | ((with_reducible apply OpR.bxt); (case hs => exact fun _ => rfl); (case hy => exact rfl); (case ho => kernel_rfl); (case hn => (first | exact ln0 | exact ln1 | exact ln2 | exact ln3 | exact ln4 | exact ln5 | exact ln6 | exact ln7 | exact ln8 | exact ln9 | exact ln10 | exact ln11 | exact ln12 | exact ln13 | exact ln14)); (case hf => (repeat' (first | exact LEq.nil | ((with_reducible apply LEq.cons); (case h => (conv => lhs; whnf); try exact rfl)) | (apply LEq.cons; (case h => (conv => lhs; whnf); try exact rfl))))))
        | exact OpR.r fun _ => rfl))
     | fail)
  all_goals (refine fin_b (.inr rfl) rfl ?_; simp_all [brk3])
theorem check4_c (ha : a.ev.past.length ≤ 140737488351232) (hb : b.cl.length ≤ 140737488351232) : Cl cfg 47 [.t (actA b), .t (.tp [.int .i64 4, .bool true, .bool false, gFn 3]), .t (.tp (actCs a))] [] (.t (.bool (brk4 a b))) [] := by
  refine Cl.of_body rfl Tryz.func47 rfl rfl rfl ?_
  repeat' (first
     | (with_reducible apply EvK.seq)
     | (with_reducible apply EvK.text)
     | (with_reducible apply EvK.ret)
     | ((with_reducible apply EvO.spb (b := SAct.wr _)) <;> intro hq)
     | ((with_reducible apply EvO.spb_y (b := _ && _)) <;> intro hq)
     | (with_reducible apply EvO.nilT)
     | ((with_reducible apply EvO.gf); (case hW => exact rfl))
     | ((with_reducible apply EvO.gt0); (case hW => exact rfl); (case hx => first
        | ((with_reducible apply OpR.callF); (case hcal => exact rfl); (case hav => exact rfl); (case hx => exact rfl); (case hh => exact rfl); (case hm => exact rfl); (case hcl => exact kept4_c a b ha hb); (case hr => exact rfl))
        | ((with_reducible apply OpR.ldw); (case hy => exact rfl); (case ht => first | (with_reducible exact sz0) | (with_reducible exact sz1) | (with_reducible exact sz2) | (with_reducible exact sz3) | (with_reducible exact sz4) | (with_reducible exact sz5) | (with_reducible exact sz6) | (with_reducible exact sz7) | (with_reducible exact sz8) | (with_reducible exact sz9)); (case hb => exact rfl); (case hl => kernel_rfl))
        | exact OpR.r fun _ => rfl))
     | ((with_reducible apply EvO.u0); (case hx => first
        | ((with_reducible apply OpR.mv); (conv => lhs; whnf); try exact rfl)
        | ((with_reducible apply OpR.asg); (conv => lhs; whnf); try exact rfl)
        | ((with_reducible apply OpR.pk_t); (case hc => exact rfl); (case h => (conv => lhs; whnf); try exact rfl))
        | ((with_reducible apply OpR.pk_f); (case hc => exact rfl); (case h => (conv => lhs; whnf); try exact rfl))
        | ((with_reducible apply OpR.fal); (case hy => exact rfl); (case ho => exact rfl); (case hn => (conv => lhs; whnf); try exact rfl))
        | ((with_reducible apply OpR.bxt); (case hs => exact fun _ => rfl); (case hy => exact rfl); (case ho => kernel_rfl); (case hn => (first | exact ln0 | exact ln1 | exact ln2 | exact ln3 | exact ln4 | exact ln5 | exact ln6 | exact ln7 | exact ln8 | exact ln9 | exact ln10 | exact ln11 | exact ln12 | exact ln13 | exact ln14)); (case hf => (repeat' (first | exact LEq.nil | ((with_reducible apply LEq.cons); (case h => (conv => lhs; whnf); try exact rfl)) | (apply LEq.cons; (case h => (conv => lhs; whnf); try exact rfl))))))
        | exact OpR.r fun _ => rfl))
     | fail)
  all_goals (refine fin_b (.inr rfl) rfl ?_; first | (rw [brk4, contB, hq]; simp only [*]; rfl) | simp_all [brk4])
end
end Go.Proofs.YtjdhnoffoknlnaaGreatDoor
