/- Law 32: the state of events,as the program finds it. No condition. -/
import Derived.Test.YtgbfedgghjcdcaaGreatDoorNJ
import Derived.Test.YtgbfedgghjcdcaaGreatDoorTS
set_option linter.unusedSimpArgs false
set_option linter.unusedVariables false
set_option linter.unusedSectionVars false
namespace Go.Proofs.YtgbfedgghjcdcaaGreatDoor
open Go.RowKit
set_option maxRecDepth 100000
set_option maxHeartbeats 32000000
section
variable {g:Cfg} {d:Option (List Nat)} {env:Env} {fr:Fr} {i:Nat}
theorem OpR.addw {xt yt:TypeId} {x y:Operand} {m n:Int} (hx:rd env x=.t (.int .i64 m)) (hy:rd env y=.t (.int .i64 n)):OpR g d i env fr (.binOp .add xt x y yt) (.t (.int .i64 (IntKind.wrap .i64 (m+n)))) fr []:=
 .bin hx hy (by unfold binS;simp only [if_true,intS])
end
theorem estrict_c (t:Tb):Cl cfg 75 [.t (.agg (tbC t))] [] (.t (.bool (strictK t.kind))) []:=by
 obtain ⟨nm,kd,C,lo,hi,fi⟩:=t
 have e1:tbC ⟨nm,kd,C,lo,hi,fi⟩=[.str nm,.int .i64 kd,intsA C,.int .i64 lo,.int .i64 hi,.int .i64 fi]:=rfl
 rw [e1]
 show Cl cfg _ _ [] (.t (.bool (strictK kd))) []
 refine Cl.of_body rfl Tryz.func75 rfl rfl rfl ?_
 repeat' (first
|(with_reducible apply EvK.seq)
|((with_reducible apply EvK.text);(try case hm=>exact rfl))
|(with_reducible apply EvK.ret)
|((with_reducible apply EvO.spd) <;> intro hq)
|((with_reducible apply EvO.spd_y) <;> intro hq)
|(with_reducible apply EvO.nilT)
|((with_reducible apply EvO.gf);(case hW=>exact rfl))
|((with_reducible apply EvO.gt0);(case hW=>exact rfl);(case hx=>exact opq))
|((with_reducible apply EvO.u0);(case hx=>exact opq))
|fail)
 all_goals (refine fin_b (.inr rfl) rfl ?_;unfold strictK;first|(simp_all;done)|(simp_all;omega))
theorem esize_c {m:Md} {t:Tb} (hm:MdL m) (hs:soundB m.sorts=true) (ht:t.cols.all (colOk m.sorts)=true) (hl:t.cols.length≤3):Cl cfg 77 [.t (mdA m),.t (.agg (tbC t))] [] (.t (.int .i64 (numberS m.sorts t.cols))) []:=by
 rw [num_prod hs ht hl]
 have hlS:=intsE_len m.sorts
 have hms:=hm.sorts
 obtain ⟨nm,kd,C,lo,hi,fi⟩:=t
 have ht:C.all (colOk m.sorts)=true:=ht
 have hl:C.length≤3:=hl
 have hlC:=intsE_len C
 have e1:tbC ⟨nm,kd,C,lo,hi,fi⟩=[.str nm,.int .i64 kd,intsA C,.int .i64 lo,.int .i64 hi,.int .i64 fi]:=rfl
 rw [mdA_eq,e1]
 show Cl cfg _ _ [] (.t (.int .i64 (prodC m.sorts C))) []
 refine Cl.of_body rfl Tryz.func77 rfl rfl rfl ?_
 repeat' (first
|(with_reducible first|apply EvK.seq|apply EvK.block)
|((with_reducible apply EvK.text);(try case hm=>exact rfl))
|(with_reducible apply EvO.nilT)
|((with_reducible apply EvO.u0);(case hx=>exact opq))
|fail)
 apply EvK.loopV
 case ho=>exact rfl
 case hp=>exact rfl
 case hl=>exact rfl
 case hs=>exact slt
 refine EvL.ind (fun q:Nat=>[(5,.t (.int .i64 (prodC m.sorts (C.take q)))),(11,.t (.int .i64 (q:Int)))]) (fun q=>q≤C.length) (fun q=>C.length - q) 0 rfl (by omega) (fun q hq=>?_)
 rcases Nat.lt_or_ge q C.length with h4|h4
 ·
  obtain ⟨c,hc'⟩:=get_of_lt h4
  have hc:=intsE_get hc'
  have ho:=List.all_eq_true.1 ht c (List.mem_of_getElem? hc')
  have hb:=prodC_bnd hs (C:=C.take (q+1)) (List.all_eq_true.2 fun x hx=>List.all_eq_true.1 ht x (List.mem_of_mem_take hx)) (by simp;omega)
  have hsn:=prodC_snoc (S:=m.sorts) hc'
  rw [hsn] at hb
  simp only [colOk,Bool.and_eq_true,decide_eq_true_eq] at ho
  obtain ⟨h0,h5⟩:=ho
  obtain ⟨s,hs'⟩:=get_of_lt (xs:=m.sorts) (k:=c.toNat) (by omega)
  have hg:=intsE_get hs'
  rw [getD_get hs'] at hb hsn
  obtain ⟨p,hp⟩:∃ p,prodC m.sorts (C.take q)=p:=⟨_,rfl⟩
  rw [hp] at hb hsn ⊢
  repeat' (first
|(with_reducible first|apply EvK.seq|apply EvK.block)
|((with_reducible apply EvK.text);(try case hm=>exact rfl))
|(with_reducible first|apply EvK.skip|apply thenK_n)
|((with_reducible apply EvK.cond_t);(case hc=>exact rfl))
|((with_reducible apply EvO.spd_t);(case hp=>exact fao))
|(with_reducible first|apply EvO.nilT|apply EvO.nilB)
|((with_reducible apply EvO.u0);(case hx=>first
|((with_reducible apply OpR.mul);(case hx|hy=>exact rfl);(case h=>omega))
|exact opq))
|fail)
  refine ⟨q+1,?_,rfl,by omega,by omega⟩
  rw [hsn];rfl
 ·
  rw [List.take_of_length_le h4]
  repeat' (first
|(with_reducible apply EvK.seq)
|((with_reducible apply EvK.text);(try case hm=>exact rfl))
|(with_reducible first|apply EvK.exit|apply EvK.ret|apply thenK_n|apply thenK_e|apply blockK_h)
|((with_reducible apply EvK.cond_f);(case hc=>exact rfl))
|((with_reducible apply EvO.spd_f);(case hp=>exact fao))
|(with_reducible apply EvO.nilT)
|((with_reducible apply EvO.u0);(case hx=>exact opq))
|fail)
  exact ⟨.inr rfl,rfl⟩
theorem idxev_c {l:List Ev} {p:Ev→Bool} {c:AV} (hl:l.length≤140737488351232) (hp:∀ x∈l,Cl cfg 116 [.t (evA x),.t c] [] (.t (.bool (p x))) []):Cl cfg 81 [.t (.arr (evsE l)),.t (.fn (.func 116) 0 [c])] [] (.t (.int .i64 (idxS p l 0))) []:=by
 have hlE:=evsE_len l
 refine Cl.of_body rfl Tryz.func81 rfl rfl rfl ?_
 repeat' (first
|(with_reducible first|apply EvK.seq|apply EvK.block)
|((with_reducible apply EvK.text);(try case hm=>exact rfl))
|(with_reducible apply EvO.nilT)
|((with_reducible apply EvO.u0);(case hx=>exact opq))
|fail)
 apply EvK.loopV
 case ho=>exact rfl
 case hp=>exact rfl
 case hl=>exact rfl
 case hs=>exact slt
 refine EvL.ind (fun q:Nat=>[(8,.t (.int .i64 (q:Int)))]) (fun q=>q≤l.length∧idxS p l 0=idxS p (l.drop q) q) (fun q=>l.length - q) 0 rfl (by simp) (fun q hq=>?_)
 obtain ⟨h1,h2⟩:=hq
 rw [h2]
 rcases Nat.lt_or_ge q l.length with h3|h3
 ·
  obtain ⟨e,he⟩:=get_of_lt h3
  have hc:=evsE_get he
  have hpn:=hp e (List.mem_of_getElem? he)
  rw [drop_at he,idxS_cons]
  obtain ⟨b,hb⟩:∃ b,p e=b:=⟨_,rfl⟩
  rw [hb] at hpn ⊢
  cases b with
  | true=>
   repeat' (first
|(with_reducible first|apply EvK.seq|apply EvK.block)
|((with_reducible apply EvK.text);(try case hm=>exact rfl))
|(with_reducible first|apply EvK.skip|apply EvK.ret|apply thenK_n|apply thenK_r|apply blockK_r)
|((with_reducible apply EvK.cond_t);(case hc=>exact rfl))
|((with_reducible apply EvO.spd_t);(case hp=>exact fao))
|(with_reducible apply EvO.nilT)
|((with_reducible apply EvO.u0);(case hx=>first
|(exact oqF hpn)
|exact opq))
|fail)
   exact ⟨.inr rfl,rfl⟩
  | false=>
   repeat' (first
|(with_reducible first|apply EvK.seq|apply EvK.block)
|((with_reducible apply EvK.text);(try case hm=>exact rfl))
|(with_reducible first|apply EvK.skip|apply thenK_n|apply blockK_n)
|((with_reducible apply EvK.cond_t);(case hc=>exact rfl))
|((with_reducible apply EvK.cond_f);(case hc=>exact rfl))
|((with_reducible apply EvO.spd_t);(case hp=>exact fao))
|(with_reducible apply EvO.nilT)
|((with_reducible apply EvO.u0);(case hx=>first
|(exact oqF hpn)
|exact opq))
|fail)
   exact ⟨q+1,rfl,rfl,⟨by omega,rfl⟩,by omega⟩
 ·
  rw [List.drop_of_length_le h3]
  repeat' (first
|(with_reducible apply EvK.seq)
|((with_reducible apply EvK.text);(try case hm=>exact rfl))
|(with_reducible first|apply EvK.exit|apply EvK.ret|apply thenK_n|apply thenK_e|apply blockK_h)
|((with_reducible apply EvK.cond_f);(case hc=>exact rfl))
|((with_reducible apply EvO.spd_f);(case hp=>exact fao))
|(with_reducible apply EvO.nilT)
|((with_reducible apply EvO.u0);(case hx=>exact opq))
|fail)
  exact ⟨.inr rfl,rfl⟩
theorem conev_c {l:List Ev} {p:Ev→Bool} {c:AV} (hl:l.length≤140737488351232) (hp:∀ x∈l,Cl cfg 116 [.t (evA x),.t c] [] (.t (.bool (p x))) []):Cl cfg 32 [.t (.arr (evsE l)),.t (.fn (.func 116) 0 [c])] [] (.t (.bool (l.any p))) []:=by
 have hi:=idxev_c hl hp
 rw [← idxS_any p l 0 (by omega)]
 refine Cl.of_body rfl Tryz.func32 rfl rfl rfl ?_
 obtain ⟨n,hn⟩:∃ n,idxS p l 0=n:=⟨_,rfl⟩
 rw [hn] at hi ⊢
 repeat' (first
|(with_reducible apply EvK.seq)
|((with_reducible apply EvK.text);(try case hm=>exact rfl))
|(with_reducible apply EvK.ret)
|((with_reducible apply EvO.spd) <;> intro hq)
|(with_reducible apply EvO.nilT)
|((with_reducible apply EvO.u0);(case hx=>first
|(exact oqF hi)
|exact opq))
|fail)
 all_goals (refine fin_b (.inr rfl) rfl ?_;simp;try omega)
def allV (m:Md) (l:List Ev):Bool:=l.all fun e=>validE m e.past.length e
theorem evalid1_c {m:Md} (hm:MdL m) (e:Ev) (he:e.past.length≤140737488351232):Cl cfg 116 [.t (evA e),.t (.tp (mdC m))] [] (.t (.bool (!validE m e.past.length e))) []:=by
 have kv:=evalid_c hm (e.past.length:Int) e he
 have hle:=intsE_len e.past
 rw [mdA_eq] at kv
 have e1:mdC m=[intsA m.sorts,.arr (tbE m.tables),.arr (nmE m.fams),.arr (cnE m.cons),.arr (opE m.ops),.arr (acE m.acts),.arr (hdE m.hides)]:=rfl
 rw [e1]
 obtain ⟨b,hb⟩:∃ b,validE m e.past.length e=b:=⟨_,rfl⟩
 rw [hb] at kv ⊢
 refine Cl.of_body rfl Tryz.func116 rfl rfl rfl ?_
 repeat' (first
|(with_reducible apply EvK.seq)
|((with_reducible apply EvK.text);(try case hm=>exact rfl))
|(with_reducible first|apply EvK.ret|apply EvO.nilT)
|((with_reducible apply EvO.u0);(case hx=>first
|(exact oqF kv)
|exact opq))
|fail)
 exact ⟨.inr rfl,rfl⟩
theorem not_any (p:Ev→Bool):∀ l:List Ev,(!l.any fun e=>!p e)=l.all p
 | []=>rfl
 | x::l=>by
  rw [List.any_cons,List.all_cons,← not_any p l]
  cases p x <;> simp
theorem eallv_c {m:Md} {l:List Ev} (hm:MdL m) (hl:l.length≤140737488351232) (hp:∀ e∈l,e.past.length≤140737488351232):Cl cfg 74 [.t (mdA m),.t (.arr (evsE l))] [] (.t (.bool (allV m l))) []:=by
 have kc:=conev_c (l:=l) (p:=fun e=>!validE m e.past.length e) (c:=.tp (mdC m)) hl fun x hx=>evalid1_c hm x (hp x hx)
 have e0:allV m l=!l.any fun e=>!validE m e.past.length e:=(not_any _ l).symm
 have e1:mdC m=[intsA m.sorts,.arr (tbE m.tables),.arr (nmE m.fams),.arr (cnE m.cons),.arr (opE m.ops),.arr (acE m.acts),.arr (hdE m.hides)]:=rfl
 rw [e1] at kc
 rw [e0,mdA_eq]
 obtain ⟨b,hb⟩:∃ b,(l.any fun e=>!validE m e.past.length e)=b:=⟨_,rfl⟩
 rw [hb] at kc ⊢
 refine Cl.of_body rfl Tryz.func74 rfl rfl rfl ?_
 repeat' (first
|(with_reducible apply EvK.seq)
|((with_reducible apply EvK.text);(try case hm=>exact rfl))
|(with_reducible first|apply EvK.ret|apply EvO.nilT)
|((with_reducible apply EvO.u0);(case hx=>first
|(exact oqF kc)
|exact opq))
|fail)
 exact ⟨.inr rfl,rfl⟩
end Go.Proofs.YtgbfedgghjcdcaaGreatDoor
