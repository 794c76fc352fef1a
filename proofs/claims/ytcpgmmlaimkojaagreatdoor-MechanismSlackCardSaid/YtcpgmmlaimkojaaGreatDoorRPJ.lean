/- What the reference's plans ask of actions: rights,slack,exclusion;sums,states,as contracts. No condition. -/
import Derived.Test.YtcpgmmlaimkojaaGreatDoorRPF
import Derived.Test.YtcpgmmlaimkojaaGreatDoorSpecPo
set_option linter.unusedSimpArgs false
set_option linter.unusedVariables false
set_option linter.unusedSectionVars false
namespace Go.Proofs.YtcpgmmlaimkojaaGreatDoor
open Go.RowKit
set_option maxRecDepth 100000
set_option maxHeartbeats 32000000
def plusP (s:List Int) (d:List Chg) (q:Nat):List Int:=(plusL s d).take q
theorem plusP_s {n:Nat} {s:List Int} {d:List Chg} (hd:allI (chgOk n d) d=true) {q:Nat} {v:Int} (h:s[q]?=some v):intsE (plusP s d q)++[[.int .i64 (v+addAt d q)]]=intsE (plusP s d (q+1)):=by
 have hq:q < s.length:=(List.getElem?_eq_some_iff.1 h).1
 have e:(plusL s d)[q]?=some (v+addAt d q):=by
  unfold plusL
  rw [List.getElem?_map,List.getElem?_range hq,Option.map_some,List.getD_eq_getElem?_getD,h,sum_add (chg_rise hd)]
  rfl
 unfold plusP intsE
 rw [List.take_add_one,e]
 simp
theorem rPlus_c {n:Nat} {s:List Int} {x:Eff} (hd:allI (chgOk n x.delta) x.delta=true) (hl:x.delta.length≤1000000) (hsl:s.length≤1000000) (hs:∀ x∈s,-1000000≤x∧x≤1000000):Cl cfg 33 [.t (intsA s),.t (.agg (efC x))] [] (.t (intsA (plusL s x.delta))) []:=by
 have hls:=intsE_len s
 have ka:=fun c=>rAdd_c (c:=c) hd hl
 have e0:plusL s x.delta=plusP s x.delta s.length:=by unfold plusP;rw [List.take_of_length_le (by rw [plus_len];exact Nat.le_refl _)]
 rw [e0]
 rw [efC_eq] at ka ⊢
 refine Cl.of_bodyT rfl Tryz.func33 rfl rfl rfl ?_
 refine drvR ?_
 refine EvL.indF (fun y:Nat×Bool=>[(5,.ls 1),(6,.t (.int .i64 (y.1:Int)))]) (fun y=>[.box false 64 (([.arr (chE x.delta),.arr (rwE x.hold),.arr (udE x.ups)]:List AV).map .t),.row false y.2 1 (intsE (plusP s x.delta y.1))]) (fun y=>y.1≤s.length) (fun y=>s.length - y.1) (0,false) rfl rfl (by dsimp only;omega) (fun y hq=>?_)
 obtain ⟨q,tch⟩:=y
 dsimp only at hq ⊢
 rcases Nat.lt_or_ge q s.length with h3|h3
 ·
  obtain ⟨v,hv⟩:=get_of_lt h3
  have hc:=intsE_get hv
  have ka:=ka (q:Int)
  have hb:=add_bnd hd (q:Int)
  have hvb:=hs v (List.mem_of_getElem? hv)
  have hsn:=plusP_s hd hv
  have hlX:lenOk ((intsE (plusP s x.delta q)).length+1) 8=true:=by
   rw [intsE_len]
   unfold plusP
   rw [List.length_take]
   exact lenG8 (by omega)
  obtain ⟨w,hw⟩:∃ w,addAt x.delta (q:Int)=w:=⟨_,rfl⟩
  rw [hw] at ka hb hsn
  repeat' (first
|(with_reducible first|apply EvK.seq|apply EvK.block)
|((with_reducible apply EvK.text);(try case hm=>exact rfl))
|((with_reducible apply EvK.drawn);(case hm=>exact rfl))
|(with_reducible first|apply EvK.skip|apply thenK_n)
|((with_reducible apply EvK.cond_t);(case hc=>exact rfl))
|((with_reducible apply EvO.spd_t);(case hp=>exact fao))
|(with_reducible first|apply EvO.nilT|apply EvO.nilB)
|((with_reducible apply EvO.u);(case hx=>((with_reducible apply OpR.apr);(case hs=>exact fun _=>rfl);(case ha|ht=>exact rfl);(case hr=>first|(with_reducible exact rw0)|(with_reducible exact rw1)|(with_reducible exact rw2)|(with_reducible exact rw3)|(with_reducible exact rw4)|exact rfl);(case hx|hy|hn|hb|hok=>exact rfl);(case hlen=>exact hlX);(case hv=>exact hsn);(case hk=>exact kfr);(case hf=>exact leq))))
|((with_reducible apply EvO.u0);(case hx=>first
|(exact oqF ka)
|exact opq))
|fail)
  exact ⟨(q+1,true),rfl,rfl,by dsimp only;omega,by dsimp only;omega⟩
 ·
  obtain rfl:q=s.length:=by omega
  exact drv
end Go.Proofs.YtcpgmmlaimkojaaGreatDoor
