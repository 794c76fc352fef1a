/- Law 32: EventSums: helpers: lists turned around,searches for events of one time and replica,lists of lists. No condition. -/
import Derived.Test.YtgbfedgghjcdcaaGreatDoorOH
import Derived.Test.YtgbfedgghjcdcaaGreatDoorTK
import Derived.Test.YtgbfedgghjcdcaaGreatDoorTE
set_option linter.unusedSimpArgs false
set_option linter.unusedVariables false
set_option linter.unusedSectionVars false
namespace Go.Proofs.YtgbfedgghjcdcaaGreatDoor
open Go.RowKit
set_option maxRecDepth 100000
set_option maxHeartbeats 32000000
def RevI (l X:List Ev) (i:Nat):Prop:=X.length=l.length∧∀ k,X[k]?=if k < i∨l.length - i≤k then l.reverse[k]? else l[k]?
theorem RevI.start (l:List Ev):RevI l l 0:=⟨rfl,fun k=>by
 by_cases h:l.length≤k
 ·rw [if_pos (.inr (by simpa using h)),List.getElem?_eq_none (by simpa using h),List.getElem?_eq_none (by simpa using h)]
 ·rw [if_neg (by omega)]⟩
theorem RevI.done {l X:List Ev} {i:Nat} (h:RevI l X i) (hi:l.length≤2 * i+1):X=l.reverse:=by
 apply List.ext_getElem?
 intro k
 rw [h.2 k]
 split
 ·rfl
 ·rename_i hk
  have hk1:i≤k:=by omega
  have hk2:k < l.length - i:=by omega
  have:k=l.length - 1 - k:=by omega
  rw [List.getElem?_reverse (by omega),← this]
theorem RevI.step {l X:List Ev} {i:Nat} {a b:Ev} (h:RevI l X i) (hi:2 * i+1 < l.length) (ha:X[i]?=some a) (hb:X[l.length - 1 - i]?=some b):RevI l ((X.set i b).set (l.length - 1 - i) a) (i+1):=by
 refine ⟨by simp [h.1],fun k=>?_⟩
 have hxa:=h.2 i
 have hxb:=h.2 (l.length - 1 - i)
 rw [ha,if_neg (by omega)] at hxa
 rw [hb,if_neg (by omega)] at hxb
 by_cases k1:k=l.length - 1 - i
 ·subst k1
  rw [List.getElem?_set_self (by rw [List.length_set,h.1];omega),if_pos (.inr (by omega)),List.getElem?_reverse (by omega),show l.length - 1 - (l.length - 1 - i)=i by omega,← hxa]
 ·rw [List.getElem?_set_ne (fun e=>k1 e.symm)]
  by_cases k2:k=i
  ·subst k2
   rw [List.getElem?_set_self (by rw [h.1];omega),if_pos (.inl (by omega)),List.getElem?_reverse (by omega),← hxb]
  ·rw [List.getElem?_set_ne (fun e=>k2 e.symm),h.2 k]
   by_cases hk:k < i∨l.length - i≤k
   ·rw [if_pos hk,if_pos (by omega)]
   ·rw [if_neg hk]
    split
    ·rename_i hk2
     omega
    ·rfl
theorem evsE_set (X:List Ev) (i:Nat) (e:Ev):(evsE X).set i (evCs e)=evsE (X.set i e):=by unfold evsE;rw [List.map_set]
theorem rev_c {l:List Ev} (h0:l≠[]) (hl:l.length≤1000):Cl cfg 35 [.ls 0] [.row false false 13 (evsE l)] (.tup []) [.row false false 13 (evsE l.reverse)]:=by
 have hlE:=evsE_len l
 have hpos:0 < l.length:=List.length_pos_iff.2 h0
 refine Cl.of_body rfl Tryz.func35 rfl rfl rfl ?_
 repeat' (first
|(with_reducible first|apply EvK.seq|apply EvK.block)
|((with_reducible apply EvK.text);(try case hm=>exact rfl))
|(with_reducible apply EvO.nilT)
|((with_reducible apply EvO.u0);(case hx=>exact opq))
|fail)
 apply EvK.loopV
 case ho=>exact rfl
 case hp=>exact rfl
 case hl=>exact rfl
 case hs=>exact slt
 refine EvL.indF (fun x:Nat×List Ev=>[(2,.t (.int .i64 (x.1:Int))),(3,.t (.int .i64 ((l.length:Int) - 1 - (x.1:Int))))]) (fun x=>[.row false false 13 (evsE x.2)]) (fun x=>RevI l x.2 x.1∧2 * x.1≤l.length) (fun x=>l.length - x.1) (0,l) (by simp;rfl) rfl ⟨RevI.start l,by omega⟩ (fun x hx=>?_)
 obtain ⟨i,X⟩:=x
 dsimp only at hx ⊢
 obtain ⟨hR,h2⟩:=hx
 have hlX:=evsE_len X
 have hXl:=hR.1
 by_cases hlt:(i:Int) < (l.length:Int) - 1 - (i:Int)
 ·
  obtain ⟨a,ha⟩:=get_of_lt (xs:=X) (k:=i) (by omega)
  obtain ⟨b,hb⟩:=get_of_lt (xs:=X) (k:=l.length - 1 - i) (by omega)
  have hst:=hR.step (by omega) ha hb
  have hj:((l.length:Int) - 1 - (i:Int)).toNat=l.length - 1 - i:=by omega
  have c1:=evsE_get ha
  have c2:=evsE_get hb
  rw [← hj] at c2
  have t1:=evsE_set X i b
  have c3:(evsE (X.set i b))[((l.length:Int) - 1 - (i:Int)).toNat]?=some [.int .i64 b.r,.int .i64 b.n,.int .i64 b.t,intsA b.past,.int .i64 b.k,.int .i64 b.a,.int .i64 b.gk,.int .i64 b.gi,.int .i64 b.ge,.int .i64 b.ga,.int .i64 b.to,.int .i64 b.pl,.int .i64 b.se]:=by
   refine evsE_get ?_
   rw [hj,List.getElem?_set_ne (by omega)]
   exact hb
  have t2:=evsE_set (X.set i b) (((l.length:Int) - 1 - (i:Int)).toNat) a
  rw [hj] at t2
  rw [← hj] at t2
  have hl2:(evsE (X.set i b)).length=l.length:=by rw [evsE_len,List.length_set,hXl]
  repeat' (first
|(with_reducible first|apply EvK.seq|apply EvK.block)
|((with_reducible apply EvK.text);(try case hm=>exact rfl))
|((with_reducible apply EvK.drawnF);(case hm=>exact rfl))
|(with_reducible first|apply EvK.skip|apply thenK_n)
|((with_reducible apply EvK.cond_t);(case hc=>exact rfl))
|((with_reducible apply EvO.spd_t);(case hp=>exact fao))
|(with_reducible first|apply EvO.nilT|apply EvOF.nilB)
|((with_reducible apply EvOF.u);(case hfl=>kernel_rfl);(case hx=>first
|((with_reducible apply OpR.stq);(case hs=>exact fun _=>rfl);(case ht=>first|(with_reducible exact sz1)|exact rfl);(case ha|hy=>exact rfl);(case hone=>kernel_rfl);(case hl|hb=>exact rfl);(case hk=>exact c1);(case ho=>exact rfl);(case hv=>exact t1);(case hf=>exact leq))
|((with_reducible apply OpR.stq);(case hs=>exact fun _=>rfl);(case ht=>first|(with_reducible exact sz1)|exact rfl);(case ha|hy=>exact rfl);(case hone=>kernel_rfl);(case hl|hb=>exact rfl);(case hk=>exact c3);(case ho=>exact rfl);(case hv=>exact t2);(case hf=>exact leq))
|exact opq))
|((with_reducible apply EvO.u0);(case hx=>exact opq))
|fail)
  exact ⟨(i+1,(X.set i b).set (((l.length:Int) - 1 - (i:Int)).toNat) a),by dsimp only;rw [show ((l.length:Int) - 1 - ((i+1:Nat):Int))=(l.length:Int) - 1 - (i:Int) - 1 by omega];rfl,rfl,⟨by rw [hj];exact hst,by dsimp only;omega⟩,by dsimp only;omega⟩
 ·
  rw [hR.done (by omega)]
  repeat' (first
|(with_reducible apply EvK.seq)
|((with_reducible apply EvK.text);(try case hm=>exact rfl))
|(with_reducible first|apply EvK.exit|apply thenK_e|apply blockK_h)
|((with_reducible apply EvK.cond_f);(case hc=>exact rfl))
|((with_reducible apply EvO.spd_f);(case hp=>exact fao))
|(with_reducible apply EvO.nilT)
|((with_reducible apply EvO.u0);(case hx=>exact opq))
|fail)
  exact ⟨.inl rfl,rfl⟩
theorem ksum_c (x y:Ev):Cl cfg 33 [.t (evA y),.t (.tp (evCs x))] [] (.t (.bool (keyEq x y))) []:=by
 have e1:evCs x=[.int .i64 x.r,.int .i64 x.n,.int .i64 x.t,intsA x.past,.int .i64 x.k,.int .i64 x.a,.int .i64 x.gk,.int .i64 x.gi,.int .i64 x.ge,.int .i64 x.ga,.int .i64 x.to,.int .i64 x.pl,.int .i64 x.se]:=rfl
 rw [evA_cells,e1]
 refine Cl.of_body rfl Tryz.func33 rfl rfl rfl ?_
 repeat' (first
|(with_reducible apply EvK.seq)
|((with_reducible apply EvK.text);(try case hm=>exact rfl))
|(with_reducible apply EvK.ret)
|((with_reducible apply EvO.spd) <;> intro hq)
|((with_reducible apply EvO.spd_y) <;> intro hq)
|(with_reducible apply EvO.nilT)
|((with_reducible apply EvO.gf);(case hW=>exact rfl))
|((with_reducible apply EvO.gt0);(case hW=>exact rfl);(case hx=>exact opq))
|((with_reducible apply EvO.u0);(case hx=>exact opq))
|fail)
 all_goals (refine fin_b (.inr rfl) rfl ?_;unfold keyEq;simp_all)
theorem idxM_c {l:List Ev} {p:Ev→Bool} {c:AV} (hl:l.length≤140737488351232) (hp:∀ x∈l,Cl cfg 33 [.t (evA x),.t c] [] (.t (.bool (p x))) []):Cl cfg 81 [.t (.arr (evsE l)),.t (.fn (.func 33) 0 [c])] [] (.t (.int .i64 (idxS p l 0))) []:=by
 have hlE:=evsE_len l
 refine Cl.of_body rfl Tryz.func81 rfl rfl rfl ?_
 repeat' (first
|(with_reducible first|apply EvK.seq|apply EvK.block)
|((with_reducible apply EvK.text);(try case hm=>exact rfl))
|(with_reducible apply EvO.nilT)
|((with_reducible apply EvO.u0);(case hx=>exact opq))
|fail)
 apply EvK.loopV
 case ho=>exact rfl
 case hp=>exact rfl
 case hl=>exact rfl
 case hs=>exact slt
 refine EvL.ind (fun q:Nat=>[(8,.t (.int .i64 (q:Int)))]) (fun q=>q≤l.length∧idxS p l 0=idxS p (l.drop q) q) (fun q=>l.length - q) 0 rfl (by simp) (fun q hq=>?_)
 obtain ⟨h1,h2⟩:=hq
 rw [h2]
 rcases Nat.lt_or_ge q l.length with h3|h3
 ·
  obtain ⟨e,he⟩:=get_of_lt h3
  have hc:=evsE_get he
  have hpn:=hp e (List.mem_of_getElem? he)
  rw [drop_at he,idxS_cons]
  obtain ⟨b,hb⟩:∃ b,p e=b:=⟨_,rfl⟩
  rw [hb] at hpn ⊢
  cases b with
  | true=>
   repeat' (first
|(with_reducible first|apply EvK.seq|apply EvK.block)
|((with_reducible apply EvK.text);(try case hm=>exact rfl))
|(with_reducible first|apply EvK.skip|apply EvK.ret|apply thenK_n|apply thenK_r|apply blockK_r)
|((with_reducible apply EvK.cond_t);(case hc=>exact rfl))
|((with_reducible apply EvO.spd_t);(case hp=>exact fao))
|(with_reducible apply EvO.nilT)
|((with_reducible apply EvO.u0);(case hx=>first
|(exact oqF hpn)
|exact opq))
|fail)
   exact ⟨.inr rfl,rfl⟩
  | false=>
   repeat' (first
|(with_reducible first|apply EvK.seq|apply EvK.block)
|((with_reducible apply EvK.text);(try case hm=>exact rfl))
|(with_reducible first|apply EvK.skip|apply thenK_n|apply blockK_n)
|((with_reducible apply EvK.cond_t);(case hc=>exact rfl))
|((with_reducible apply EvK.cond_f);(case hc=>exact rfl))
|((with_reducible apply EvO.spd_t);(case hp=>exact fao))
|(with_reducible apply EvO.nilT)
|((with_reducible apply EvO.u0);(case hx=>first
|(exact oqF hpn)
|exact opq))
|fail)
   exact ⟨q+1,rfl,rfl,⟨by omega,rfl⟩,by omega⟩
 ·
  rw [List.drop_of_length_le h3]
  repeat' (first
|(with_reducible apply EvK.seq)
|((with_reducible apply EvK.text);(try case hm=>exact rfl))
|(with_reducible first|apply EvK.exit|apply EvK.ret|apply thenK_n|apply thenK_e|apply blockK_h)
|((with_reducible apply EvK.cond_f);(case hc=>exact rfl))
|((with_reducible apply EvO.spd_f);(case hp=>exact fao))
|(with_reducible apply EvO.nilT)
|((with_reducible apply EvO.u0);(case hx=>exact opq))
|fail)
  exact ⟨.inr rfl,rfl⟩
theorem conM_c {l:List Ev} {p:Ev→Bool} {c:AV} (hl:l.length≤140737488351232) (hp:∀ x∈l,Cl cfg 33 [.t (evA x),.t c] [] (.t (.bool (p x))) []):Cl cfg 32 [.t (.arr (evsE l)),.t (.fn (.func 33) 0 [c])] [] (.t (.bool (l.any p))) []:=by
 have hi:=idxM_c hl hp
 rw [← idxS_any p l 0 (by omega)]
 refine Cl.of_body rfl Tryz.func32 rfl rfl rfl ?_
 obtain ⟨n,hn⟩:∃ n,idxS p l 0=n:=⟨_,rfl⟩
 rw [hn] at hi ⊢
 repeat' (first
|(with_reducible apply EvK.seq)
|((with_reducible apply EvK.text);(try case hm=>exact rfl))
|(with_reducible apply EvK.ret)
|((with_reducible apply EvO.spd) <;> intro hq)
|(with_reducible apply EvO.nilT)
|((with_reducible apply EvO.u0);(case hx=>first
|(exact oqF hi)
|exact opq))
|fail)
 all_goals (refine fin_b (.inr rfl) rfl ?_;simp;try omega)
theorem lists_c {A:List (List Int)} (hl:A.length≤140737488351232) (hp:∀ x∈A,x.length≤140737488351232):Cl cfg 38 [.t (.arr (clksE A)),.t (.arr (clksE A))] [] (.t (.bool true)) []:=by
 have hlA:=clksE_len A
 refine Cl.of_body rfl Tryz.func38 rfl rfl rfl ?_
 repeat' (first
|(with_reducible first|apply EvK.seq|apply EvK.block)
|((with_reducible apply EvK.text);(try case hm=>exact rfl))
|(with_reducible first|apply EvK.skip|apply thenK_n)
|((with_reducible apply EvK.cond_f);(case hc=>exact rfl))
|((with_reducible apply EvO.spn_f);(case hp=>exact fao))
|(with_reducible apply EvO.nilT)
|((with_reducible apply EvO.u0);(case hx=>exact opq))
|fail)
 apply EvK.loopV
 case ho=>exact rfl
 case hp=>exact rfl
 case hl=>exact rfl
 case hs=>exact slt
 refine EvL.ind (fun q:Nat=>[(5,.t (.int .i64 (q:Int)))]) (fun q=>q≤A.length) (fun q=>A.length - q) 0 rfl (by omega) (fun q hq=>?_)
 rcases Nat.lt_or_ge q A.length with h3|h3
 ·
  obtain ⟨x,hx⟩:=get_of_lt h3
  have hc:=clksE_get hx
  have kx:=rints_c (hp x (List.mem_of_getElem? hx)) (hp x (List.mem_of_getElem? hx))
  rw [beq_self_eq_true] at kx
  repeat' (first
|(with_reducible first|apply EvK.seq|apply EvK.block)
|((with_reducible apply EvK.text);(try case hm=>exact rfl))
|((with_reducible apply EvK.drawn);(case hm=>exact rfl))
|(with_reducible first|apply EvK.skip|apply thenK_n|apply blockK_n)
|((with_reducible apply EvK.cond_t);(case hc=>exact rfl))
|((with_reducible apply EvK.cond_f);(case hc=>exact rfl))
|((with_reducible apply EvO.spd_t);(case hp=>exact fao))
|(with_reducible apply EvO.nilT)
|((with_reducible apply EvO.u0);(case hx=>first
|(exact oqF kx)
|exact opq))
|fail)
  exact ⟨q+1,rfl,rfl,by omega,by omega⟩
 ·
  repeat' (first
|(with_reducible apply EvK.seq)
|((with_reducible apply EvK.text);(try case hm=>exact rfl))
|(with_reducible first|apply EvK.exit|apply EvK.ret|apply thenK_n|apply thenK_e|apply blockK_h)
|((with_reducible apply EvK.cond_f);(case hc=>exact rfl))
|((with_reducible apply EvO.spd_f);(case hp=>exact fao))
|(with_reducible apply EvO.nilT)
|((with_reducible apply EvO.u0);(case hx=>exact opq))
|fail)
  exact ⟨.inr rfl,rfl⟩
end Go.Proofs.YtgbfedgghjcdcaaGreatDoor
