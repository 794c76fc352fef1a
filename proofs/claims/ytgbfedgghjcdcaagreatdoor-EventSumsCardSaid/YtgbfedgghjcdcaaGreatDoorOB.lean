/- Law 32: the state of events,as a contract. No condition. -/
import Derived.Test.YtgbfedgghjcdcaaGreatDoorOA
set_option linter.unusedSimpArgs false
set_option linter.unusedVariables false
set_option linter.unusedSectionVars false
namespace Go.Proofs.YtgbfedgghjcdcaaGreatDoor
open Go.RowKit
set_option maxRecDepth 100000
set_option maxHeartbeats 32000000
structure Small (m:Md):Prop where
 len:MdL m
 ok:modelB m=true
 few:∀ a∈m.acts,effFew (cntOf m.sorts true m.tables) (mrgL m.sorts m.tables).length a=true
theorem fewMB_iff {m:Md} {l:List Ev} (h:fewMB m l=true):lensFew m l∧modelB m=true∧(∀ a∈m.acts,effFew (cntOf m.sorts true m.tables) (mrgL m.sorts m.tables).length a=true)∧(∀ e∈l,e.past.length≤8)∧cntOf m.sorts true m.tables≤40∧(mrgL m.sorts m.tables).length≤20:=by
 unfold fewMB at h
 simp only [Bool.and_eq_true,decide_eq_true_eq,List.all_eq_true] at h
 obtain ⟨h1,h2,h3,h4,h5,h6⟩:=h
 exact ⟨h1,h2,h3,fun e he=>by simpa [pastFew] using h4 e he,h5,h6⟩
theorem Small.delta {m:Md} (h:Small m) {a:Actn} (ha:a∈m.acts) {k:Nat} {c:Chg} (hc:a.eff.delta[k]?=some c):0≤c.cell∧c.cell < cntOf m.sorts true m.tables:=by
 have h1:=h.few a ha
 unfold effFew at h1
 simp only [Bool.and_eq_true] at h1
 have:=List.all_eq_true.1 h1.2.1 c (List.mem_of_getElem? hc)
 simpa [chIn] using this
theorem form_act {e:Ev} (h:formB e=true) (hk:e.k=0):0≤e.a:=by
 unfold formB at h
 rw [if_pos hk] at h
 simp only [Bool.and_eq_true,actF,betB,decide_eq_true_eq] at h
 omega
theorem valid_act {m:Md} {e:Ev} (h:validE m e.past.length e=true) (hk:e.k=0):∃ a,m.acts[e.a.toNat]?=some a∧0≤e.a∧e.a < m.acts.length:=by
 unfold validE at h
 simp only [Bool.and_eq_true,Bool.or_eq_true,Bool.not_eq_true',decide_eq_true_eq,decide_eq_false_iff_not] at h
 have h0:=form_act h.1 hk
 have h1:e.a < m.acts.length:=h.2.2.resolve_left fun hn=>hn hk
 obtain ⟨a,ha⟩:=get_of_lt (xs:=m.acts) (k:=e.a.toNat) (by omega)
 exact ⟨a,ha,h0,h1⟩
theorem evChg_act {m:Md} {e:Ev} {a:Actn} (hk:e.k=0) (ha:m.acts[e.a.toNat]?=some a):evChg m e=a.eff.delta:=by
 unfold evChg
 rw [if_pos hk,List.getD_eq_getElem?_getD,ha]
 rfl
theorem foldC_snoc {cs:List Chg} {out:List Int} {q:Nat} {c:Chg} (h:cs[q]?=some c):(cs.take (q+1)).foldl addC out=addC ((cs.take q).foldl addC out) c:=foldl_snoc _ _ h
theorem estate_n {m:Md} {l:List Ev} {c:List Int} (hS:Small m) (hl:l.length≤140737488351232) (hp:∀ e∈l,e.past.length≤140737488351232) (hcl:c.length≤140737488351232) (hn:¬ ((c.length:Int)=cntOf m.sorts true m.tables∧allV m l=true)) :
  Cl cfg 34 [.t (mdA m),.t (intsA c),.t (.arr (evsE l))] [] (.t (.tup [.arr [],.int .i64 1])) []:=by
 have hm:=hS.len
 have hv:=model_lay hS.ok
 have hlL:=tbE_len m.tables
 have hfew:=lay_few hv
 have hsd:=lay_sound hv
 have ksz:=fun (t:Tb) h1 h2=>esize_c (t:=t) hm hsd h1 h2
 have kv:=eallv_c hm hl hp
 rw [mdA_eq] at ksz kv ⊢
 refine Cl.of_bodyT rfl Tryz.func34 rfl rfl rfl ?_
 repeat' (first
|(with_reducible first|apply EvK.seq|apply EvK.block)
|((with_reducible apply EvK.text);(try case hm=>exact rfl))
|(with_reducible apply EvO.nilT)
|((with_reducible apply EvO.u0);(case hx=>exact opq))
|fail)
 apply EvK.loopV
 case ho=>exact rfl
 case hp=>exact rfl
 case hl=>exact rfl
 case hs=>exact slt
 refine EvL.ind (fun q:Nat=>[(8,.t (.int .i64 (cntOf m.sorts true (m.tables.take q)))),(19,.t (.int .i64 (q:Int)))]) (fun q=>q≤m.tables.length) (fun q=>m.tables.length - q) 0 rfl (by omega) (fun q hq=>?_)
 rcases Nat.lt_or_ge q m.tables.length with h3|h3
 ·
  obtain ⟨t,ht⟩:=get_of_lt h3
  have hc:=tbE_get ht
  obtain ⟨c1,c2,c3⟩:=lay_cols hv ht
  have kn:=ksz t c3 c1
  have kst:=estrict_c t
  have hs1:=cnt_snoc (S:=m.sorts) true ht
  have hb1:=cnt_bnd (S:=m.sorts) true (m.tables.take q)
  have hbN:=numberS_bnd m.sorts t.cols
  have hlq:(m.tables.take q).length=q:=by simp;omega
  rw [hlq] at hb1
  obtain ⟨a,ha⟩:∃ a,cntOf m.sorts true (m.tables.take q)=a:=⟨_,rfl⟩
  obtain ⟨N,hN⟩:∃ N,numberS m.sorts t.cols=N:=⟨_,rfl⟩
  rw [ha] at hs1 hb1 ⊢
  rw [hN] at hs1 hbN kn
  have e1:tbC t=[.str t.name,.int .i64 t.kind,intsA t.cols,.int .i64 t.lo,.int .i64 t.hi,.int .i64 t.first]:=rfl
  rw [e1] at kn kst
  cases hst:strictK t.kind with
  | true=>
   rw [hst] at kst
   rw [hst,if_pos rfl] at hs1
   repeat' (first
|(with_reducible first|apply EvK.seq|apply EvK.block)
|((with_reducible apply EvK.text);(try case hm=>exact rfl))
|(with_reducible first|apply EvK.skip|apply thenK_n)
|((with_reducible apply EvK.cond_t);(case hc=>exact rfl))
|((with_reducible apply EvO.spd_t);(case hp=>exact fao))
|(with_reducible first|apply EvO.nilT|apply EvO.nilB)
|((with_reducible apply EvO.u0);(case hx=>first
|(exact oqF kst)
|(exact oqF kn)
|exact opq))
|fail)
   refine ⟨q+1,?_,rfl,by omega,by omega⟩
   rw [hs1];rfl
  | false=>
   rw [hst] at kst
   rw [hst,if_neg (by decide)] at hs1
   repeat' (first
|(with_reducible first|apply EvK.seq|apply EvK.block)
|((with_reducible apply EvK.text);(try case hm=>exact rfl))
|(with_reducible first|apply EvK.skip|apply thenK_n|apply blockK_n)
|((with_reducible apply EvK.cond_t);(case hc=>exact rfl))
|((with_reducible apply EvK.cond_f);(case hc=>exact rfl))
|((with_reducible apply EvO.spd_t);(case hp=>exact fao))
|(with_reducible apply EvO.nilT)
|((with_reducible apply EvO.u0);(case hx=>first
|(exact oqF kst)
|exact opq))
|fail)
   refine ⟨q+1,?_,rfl,by omega,by omega⟩
   rw [hs1];rfl
 ·
  rw [List.take_of_length_le h3]
  obtain ⟨s,hs⟩:∃ s,cntOf m.sorts true m.tables=s:=⟨_,rfl⟩
  obtain ⟨b,hb⟩:∃ b,allV m l=b:=⟨_,rfl⟩
  rw [hs] at hn ⊢
  rw [hb] at hn kv
  cases b with
  | true=>
   have hne:(c.length:Int)≠s:=fun h=>hn ⟨h,rfl⟩
   repeat' (first
|(with_reducible apply EvK.seq)
|((with_reducible apply EvK.text);(try case hm=>exact rfl))
|(with_reducible first|apply EvK.exit|apply EvK.ret|apply thenK_n|apply thenK_e|apply thenK_r|apply blockK_h)
|((with_reducible apply EvK.cond_t);(case hc=>exact rfl))
|((with_reducible apply EvK.cond_f);(case hc=>exact rfl))
|((with_reducible apply EvO.spd_f);(case hp=>exact fao))
|((with_reducible apply EvO.spn_t);(case hp=>exact fao))
|(with_reducible apply EvO.nilT)
|((with_reducible apply EvO.gf);(case hW=>exact rfl))
|((with_reducible apply EvO.u0);(case hx=>exact opq))
|fail)
   all_goals exact ⟨.inr rfl,rfl⟩
  | false=>
   repeat' (first
|(with_reducible apply EvK.seq)
|((with_reducible apply EvK.text);(try case hm=>exact rfl))
|(with_reducible first|apply EvK.exit|apply EvK.ret|apply thenK_n|apply thenK_e|apply thenK_r|apply blockK_h)
|((with_reducible apply EvK.cond_t);(case hc=>exact rfl))
|((with_reducible apply EvK.cond_f);(case hc=>exact rfl))
|((with_reducible apply EvO.spd_f);(case hp=>exact fao))
|((with_reducible apply EvO.spn) <;> intro hq)
|(with_reducible apply EvO.nilT)
|((with_reducible apply EvO.gf);(case hW=>exact rfl))
|((with_reducible apply EvO.gt0);(case hW=>exact rfl);(case hx=>first
|(exact oqF kv)
|exact opq))
|((with_reducible apply EvO.u0);(case hx=>exact opq))
|fail)
   all_goals exact ⟨.inr rfl,rfl⟩
theorem estate_0 {m:Md} {l:List Ev} (hS:Small m) (hl:l.length≤1000) (hp:∀ e∈l,e.past.length≤140737488351232) (hlc:0=cntOf m.sorts true m.tables) (hva:allV m l=true) :
  Cl cfg 34 [.t (mdA m),.t (intsA []),.t (.arr (evsE l))] [] (.t (.tup [intsA (stateF m [] l),.int .i64 0])) []:=by
 have hm:=hS.len
 have hv:=model_lay hS.ok
 have hlL:=tbE_len m.tables
 have hlE:=evsE_len l
 have hlA:=acE_len m.acts
 have hfew:=lay_few hv
 have hsd:=lay_sound hv
 have ksz:=fun (t:Tb) h1 h2=>esize_c (t:=t) hm hsd h1 h2
 have kv:=eallv_c (l:=l) hm (by omega) hp
 have kc:Cl cfg 82 [.t (.arr [])] [] (.t (.arr [])) []:=⟨1,rfl⟩
 have hz1:([]:List Int).length=0:=rfl
 have hz2:([]:List (List AV)).length=0:=rfl
 have hsl:=stateF_len m l []
 have hs0:stateF m [] l=[]:=List.eq_nil_of_length_eq_zero (by rw [hsl];rfl)
 rw [hs0]
 rw [hva] at kv
 rw [mdA_eq] at ksz kv ⊢
 refine Cl.of_bodyT rfl Tryz.func34 rfl rfl rfl ?_
 repeat' (first
|(with_reducible first|apply EvK.seq|apply EvK.block)
|((with_reducible apply EvK.text);(try case hm=>exact rfl))
|(with_reducible apply EvO.nilT)
|((with_reducible apply EvO.u0);(case hx=>exact opq))
|fail)
 apply EvK.loopV
 case ho=>exact rfl
 case hp=>exact rfl
 case hl=>exact rfl
 case hs=>exact slt
 refine EvL.ind (fun q:Nat=>[(8,.t (.int .i64 (cntOf m.sorts true (m.tables.take q)))),(19,.t (.int .i64 (q:Int)))]) (fun q=>q≤m.tables.length) (fun q=>m.tables.length - q) 0 rfl (by omega) (fun q hq=>?_)
 rcases Nat.lt_or_ge q m.tables.length with h3|h3
 ·
  obtain ⟨t,ht⟩:=get_of_lt h3
  have hc:=tbE_get ht
  obtain ⟨c1,c2,c3⟩:=lay_cols hv ht
  have kn:=ksz t c3 c1
  have kst:=estrict_c t
  have hs1:=cnt_snoc (S:=m.sorts) true ht
  have hb1:=cnt_bnd (S:=m.sorts) true (m.tables.take q)
  have hbN:=numberS_bnd m.sorts t.cols
  have hlq:(m.tables.take q).length=q:=by simp;omega
  rw [hlq] at hb1
  obtain ⟨a,ha⟩:∃ a,cntOf m.sorts true (m.tables.take q)=a:=⟨_,rfl⟩
  obtain ⟨N,hN⟩:∃ N,numberS m.sorts t.cols=N:=⟨_,rfl⟩
  rw [ha] at hs1 hb1 ⊢
  rw [hN] at hs1 hbN kn
  have e1:tbC t=[.str t.name,.int .i64 t.kind,intsA t.cols,.int .i64 t.lo,.int .i64 t.hi,.int .i64 t.first]:=rfl
  rw [e1] at kn kst
  cases hst:strictK t.kind with
  | true=>
   rw [hst] at kst
   rw [hst,if_pos rfl] at hs1
   repeat' (first
|(with_reducible first|apply EvK.seq|apply EvK.block)
|((with_reducible apply EvK.text);(try case hm=>exact rfl))
|(with_reducible first|apply EvK.skip|apply thenK_n)
|((with_reducible apply EvK.cond_t);(case hc=>exact rfl))
|((with_reducible apply EvO.spd_t);(case hp=>exact fao))
|(with_reducible first|apply EvO.nilT|apply EvO.nilB)
|((with_reducible apply EvO.u0);(case hx=>first
|(exact oqF kst)
|(exact oqF kn)
|exact opq))
|fail)
   refine ⟨q+1,?_,rfl,by omega,by omega⟩
   rw [hs1];rfl
  | false=>
   rw [hst] at kst
   rw [hst,if_neg (by decide)] at hs1
   repeat' (first
|(with_reducible first|apply EvK.seq|apply EvK.block)
|((with_reducible apply EvK.text);(try case hm=>exact rfl))
|(with_reducible first|apply EvK.skip|apply thenK_n|apply blockK_n)
|((with_reducible apply EvK.cond_t);(case hc=>exact rfl))
|((with_reducible apply EvK.cond_f);(case hc=>exact rfl))
|((with_reducible apply EvO.spd_t);(case hp=>exact fao))
|(with_reducible apply EvO.nilT)
|((with_reducible apply EvO.u0);(case hx=>first
|(exact oqF kst)
|exact opq))
|fail)
   refine ⟨q+1,?_,rfl,by omega,by omega⟩
   rw [hs1];rfl
 ·
  rw [List.take_of_length_le h3,← hlc]
  repeat' (first
|(with_reducible first|apply EvK.seq|apply EvK.block)
|((with_reducible apply EvK.text);(try case hm=>exact rfl))
|(with_reducible first|apply EvK.skip|apply EvK.exit|apply thenK_n|apply thenK_e|apply blockK_h)
|((with_reducible apply EvK.cond_f);(case hc=>exact rfl))
|((with_reducible apply EvO.spd_f);(case hp=>exact fao))
|((with_reducible apply EvO.spn_f);(case hp=>exact fao))
|(with_reducible apply EvO.nilT)
|((with_reducible apply EvO.gt0);(case hW=>exact rfl);(case hx=>first
|(exact oqF kv)
|exact opq))
|((with_reducible apply EvO.u0);(case hx=>first
|(exact oqN kc)
|exact opq))
|fail)
  apply EvK.loopV
  case ho=>exact rfl
  case hp=>exact rfl
  case hl=>exact rfl
  case hs=>exact slt
  refine EvL.indF (fun q:Nat=>[(45,.t (.int .i64 (q:Int)))]) (fun q=>[.box false 30 ((mdC m).map .t)]) (fun q=>q≤l.length) (fun q=>l.length - q) 0 rfl rfl (by omega) (fun q hq=>?_)
  rcases Nat.lt_or_ge q l.length with g3|g3
  ·
   obtain ⟨e,he⟩:=get_of_lt g3
   have hec:=evsE_get he
   by_cases hk:e.k=0
   ·
    obtain ⟨a,ha,a0,a1⟩:=valid_act (List.all_eq_true.1 hva e (List.mem_of_getElem? he)) hk
    have hac:=acE_get ha
    have hd0:a.eff.delta=[]:=by
     cases hd:a.eff.delta with
     | nil=>rfl
     | cons d r=>
      have:=hS.delta (List.mem_of_getElem? ha) (k:=0) (c:=d) (by rw [hd];rfl)
      omega
    rw [hd0] at hac
    repeat' (first
|(with_reducible first|apply EvK.seq|apply EvK.block)
|((with_reducible apply EvK.text);(try case hm=>exact rfl))
|(with_reducible first|apply EvK.skip|apply thenK_n)
|((with_reducible apply EvK.cond_t);(case hc=>exact rfl))
|((with_reducible apply EvK.cond_f);(case hc=>exact rfl))
|((with_reducible apply EvO.spd_t);(case hp=>exact fao))
|((with_reducible apply EvO.spn_f);(case hp=>exact fao))
|(with_reducible apply EvO.nilT)
|((with_reducible apply EvO.u0);(case hx=>exact opq))
|fail)
    apply EvK.loopV
    case ho=>exact rfl
    case hp=>exact rfl
    case hl=>exact rfl
    case hs=>exact slt
    refine EvL.indF (fun k:Nat=>[(61,.t (.int .i64 (k:Int)))]) (fun k=>[.box false 30 ((mdC m).map .t),.box false 36 (([.int .i64 e.r,.int .i64 e.n,.int .i64 e.t,intsA e.past,.int .i64 e.k,.int .i64 e.a,.int .i64 e.gk,.int .i64 e.gi,.int .i64 e.ge,.int .i64 e.ga,.int .i64 e.to,.int .i64 e.pl,.int .i64 e.se]:List AV).map .t)]) (fun k=>k=0) (fun k=>0) 0 rfl rfl rfl (fun k hk2=>?_)
    subst hk2
    repeat' (first
|(with_reducible apply EvK.seq)
|((with_reducible apply EvK.text);(try case hm=>exact rfl))
|(with_reducible first|apply EvK.exit|apply thenK_n|apply thenK_e|apply blockK_n|apply blockK_h)
|((with_reducible apply EvK.cond_f);(case hc=>exact rfl))
|((with_reducible apply EvO.spd_f);(case hp=>exact fao))
|(with_reducible apply EvO.nilT)
|((with_reducible apply EvO.u0);(case hx=>exact opq))
|fail)
    exact ⟨q+1,rfl,rfl,by omega,by omega⟩
   ·
    repeat' (first
|(with_reducible first|apply EvK.seq|apply EvK.block)
|((with_reducible apply EvK.text);(try case hm=>exact rfl))
|(with_reducible first|apply EvK.skip|apply EvK.exit|apply thenK_n|apply thenK_e|apply blockK_h)
|((with_reducible apply EvK.cond_t);(case hc=>exact rfl))
|((with_reducible apply EvO.spd_t);(case hp=>exact fao))
|((with_reducible apply EvO.spn_t);(case hp=>exact fao))
|(with_reducible apply EvO.nilT)
|((with_reducible apply EvO.u0);(case hx=>exact opq))
|fail)
    exact ⟨q+1,rfl,rfl,by omega,by omega⟩
  ·
   repeat' (first
|(with_reducible apply EvK.seq)
|((with_reducible apply EvK.text);(try case hm=>exact rfl))
|(with_reducible first|apply EvK.exit|apply EvK.ret|apply thenK_n|apply thenK_e|apply blockK_h)
|((with_reducible apply EvK.cond_f);(case hc=>exact rfl))
|((with_reducible apply EvO.spd_f);(case hp=>exact fao))
|(with_reducible apply EvO.nilT)
|((with_reducible apply EvO.u0);(case hx=>exact opq))
|fail)
   exact ⟨.inr rfl,rfl⟩
theorem estate_c {m:Md} {l:List Ev} {c:List Int} (hS:Small m) (hl:l.length≤1000) (hp:∀ e∈l,e.past.length≤140737488351232) (hcl:c.length≤1000) (h0:c≠[]) (hlc:(c.length:Int)=cntOf m.sorts true m.tables) (hva:allV m l=true) :
  Cl cfg 34 [.t (mdA m),.t (intsA c),.t (.arr (evsE l))] [] (.t (.tup [intsA (stateF m c l),.int .i64 0])) []:=by
 have hm:=hS.len
 have hv:=model_lay hS.ok
 have hlL:=tbE_len m.tables
 have hlE:=evsE_len l
 have hlA:=acE_len m.acts
 have hfew:=lay_few hv
 have hsd:=lay_sound hv
 have ksz:=fun (t:Tb) h1 h2=>esize_c (t:=t) hm hsd h1 h2
 have kv:=eallv_c (l:=l) hm (by omega) hp
 have kc:=clone_c h0 (by omega)
 rw [hva] at kv
 rw [mdA_eq] at ksz kv ⊢
 refine Cl.of_bodyT rfl Tryz.func34 rfl rfl rfl ?_
 repeat' (first
|(with_reducible first|apply EvK.seq|apply EvK.block)
|((with_reducible apply EvK.text);(try case hm=>exact rfl))
|(with_reducible apply EvO.nilT)
|((with_reducible apply EvO.u0);(case hx=>exact opq))
|fail)
 apply EvK.loopV
 case ho=>exact rfl
 case hp=>exact rfl
 case hl=>exact rfl
 case hs=>exact slt
 refine EvL.ind (fun q:Nat=>[(8,.t (.int .i64 (cntOf m.sorts true (m.tables.take q)))),(19,.t (.int .i64 (q:Int)))]) (fun q=>q≤m.tables.length) (fun q=>m.tables.length - q) 0 rfl (by omega) (fun q hq=>?_)
 rcases Nat.lt_or_ge q m.tables.length with h3|h3
 ·
  obtain ⟨t,ht⟩:=get_of_lt h3
  have hc:=tbE_get ht
  obtain ⟨c1,c2,c3⟩:=lay_cols hv ht
  have kn:=ksz t c3 c1
  have kst:=estrict_c t
  have hs1:=cnt_snoc (S:=m.sorts) true ht
  have hb1:=cnt_bnd (S:=m.sorts) true (m.tables.take q)
  have hbN:=numberS_bnd m.sorts t.cols
  have hlq:(m.tables.take q).length=q:=by simp;omega
  rw [hlq] at hb1
  obtain ⟨a,ha⟩:∃ a,cntOf m.sorts true (m.tables.take q)=a:=⟨_,rfl⟩
  obtain ⟨N,hN⟩:∃ N,numberS m.sorts t.cols=N:=⟨_,rfl⟩
  rw [ha] at hs1 hb1 ⊢
  rw [hN] at hs1 hbN kn
  have e1:tbC t=[.str t.name,.int .i64 t.kind,intsA t.cols,.int .i64 t.lo,.int .i64 t.hi,.int .i64 t.first]:=rfl
  rw [e1] at kn kst
  cases hst:strictK t.kind with
  | true=>
   rw [hst] at kst
   rw [hst,if_pos rfl] at hs1
   repeat' (first
|(with_reducible first|apply EvK.seq|apply EvK.block)
|((with_reducible apply EvK.text);(try case hm=>exact rfl))
|(with_reducible first|apply EvK.skip|apply thenK_n)
|((with_reducible apply EvK.cond_t);(case hc=>exact rfl))
|((with_reducible apply EvO.spd_t);(case hp=>exact fao))
|(with_reducible first|apply EvO.nilT|apply EvO.nilB)
|((with_reducible apply EvO.u0);(case hx=>first
|(exact oqF kst)
|(exact oqF kn)
|exact opq))
|fail)
   refine ⟨q+1,?_,rfl,by omega,by omega⟩
   rw [hs1];rfl
  | false=>
   rw [hst] at kst
   rw [hst,if_neg (by decide)] at hs1
   repeat' (first
|(with_reducible first|apply EvK.seq|apply EvK.block)
|((with_reducible apply EvK.text);(try case hm=>exact rfl))
|(with_reducible first|apply EvK.skip|apply thenK_n|apply blockK_n)
|((with_reducible apply EvK.cond_t);(case hc=>exact rfl))
|((with_reducible apply EvK.cond_f);(case hc=>exact rfl))
|((with_reducible apply EvO.spd_t);(case hp=>exact fao))
|(with_reducible apply EvO.nilT)
|((with_reducible apply EvO.u0);(case hx=>first
|(exact oqF kst)
|exact opq))
|fail)
   refine ⟨q+1,?_,rfl,by omega,by omega⟩
   rw [hs1];rfl
 ·
  rw [List.take_of_length_le h3,← hlc]
  repeat' (first
|(with_reducible first|apply EvK.seq|apply EvK.block)
|((with_reducible apply EvK.text);(try case hm=>exact rfl))
|(with_reducible first|apply EvK.skip|apply EvK.exit|apply thenK_n|apply thenK_e|apply blockK_h)
|((with_reducible apply EvK.cond_f);(case hc=>exact rfl))
|((with_reducible apply EvO.spd_f);(case hp=>exact fao))
|((with_reducible apply EvO.spn_f);(case hp=>exact fao))
|(with_reducible apply EvO.nilT)
|((with_reducible apply EvO.gt0);(case hW=>exact rfl);(case hx=>first
|(exact oqF kv)
|exact opq))
|((with_reducible apply EvO.u0);(case hx=>first
|(exact oqX kc)
|exact opq))
|fail)
  apply EvK.loopV
  case ho=>exact rfl
  case hp=>exact rfl
  case hl=>exact rfl
  case hs=>exact slt
  refine EvL.indF (fun q:Nat=>[(45,.t (.int .i64 (q:Int)))]) (fun q=>[.box false 30 ((mdC m).map .t),.row false false 1 (intsE (stateF m c (l.take q)))]) (fun q=>q≤l.length) (fun q=>l.length - q) 0 rfl rfl (by omega) (fun q hq=>?_)
  rcases Nat.lt_or_ge q l.length with g3|g3
  ·
   obtain ⟨e,he⟩:=get_of_lt g3
   have hec:=evsE_get he
   have hsn:=stateF_snoc (m:=m) (out:=c) he
   have hlo:=stateF_len m (l.take q) c
   obtain ⟨X,hX⟩:∃ X,stateF m c (l.take q)=X:=⟨_,rfl⟩
   rw [hX] at hsn hlo ⊢
   by_cases hk:e.k=0
   ·
    obtain ⟨a,ha,a0,a1⟩:=valid_act (List.all_eq_true.1 hva e (List.mem_of_getElem? he)) hk
    have hac:=acE_get ha
    have hlD:=chE_len a.eff.delta
    have hdl:=hm.delta a (List.mem_of_getElem? ha)
    have hev:=evChg_act hk ha
    have hadd:addE m X e=a.eff.delta.foldl addC X:=by unfold addE;rw [hev]
    rw [hadd] at hsn
    repeat' (first
|(with_reducible first|apply EvK.seq|apply EvK.block)
|((with_reducible apply EvK.text);(try case hm=>exact rfl))
|(with_reducible first|apply EvK.skip|apply thenK_n)
|((with_reducible apply EvK.cond_t);(case hc=>exact rfl))
|((with_reducible apply EvK.cond_f);(case hc=>exact rfl))
|((with_reducible apply EvO.spd_t);(case hp=>exact fao))
|((with_reducible apply EvO.spn_f);(case hp=>exact fao))
|(with_reducible apply EvO.nilT)
|((with_reducible apply EvO.u0);(case hx=>exact opq))
|fail)
    apply EvK.loopV
    case ho=>exact rfl
    case hp=>exact rfl
    case hl=>exact rfl
    case hs=>exact slt
    refine EvL.indF (fun k:Nat=>[(61,.t (.int .i64 (k:Int)))]) (fun k=>[.box false 30 ((mdC m).map .t),.row false false 1 (intsE ((a.eff.delta.take k).foldl addC X)),.box false 36 (([.int .i64 e.r,.int .i64 e.n,.int .i64 e.t,intsA e.past,.int .i64 e.k,.int .i64 e.a,.int .i64 e.gk,.int .i64 e.gi,.int .i64 e.ge,.int .i64 e.ga,.int .i64 e.to,.int .i64 e.pl,.int .i64 e.se]:List AV).map .t)]) (fun k=>k≤a.eff.delta.length) (fun k=>a.eff.delta.length - k) 0 rfl rfl (by omega) (fun k hk2=>?_)
    rcases Nat.lt_or_ge k a.eff.delta.length with g4|g4
    ·
     obtain ⟨d,hd⟩:=get_of_lt g4
     have hdc:=chE_get hd
     obtain ⟨d0,d1⟩:=hS.delta (List.mem_of_getElem? ha) hd
     have hfs:=foldC_snoc (out:=X) hd
     have hfl:=foldC_len (a.eff.delta.take k) X
     obtain ⟨Y,hY⟩:∃ Y,(a.eff.delta.take k).foldl addC X=Y:=⟨_,rfl⟩
     rw [hY] at hfs hfl ⊢
     obtain ⟨v,hvv⟩:=get_of_lt (xs:=Y) (k:=d.cell.toNat) (by omega)
     have hk':=intsE_get hvv
     have hlY:=intsE_len Y
     have hst:(intsE Y).set d.cell.toNat [.int .i64 (IntKind.wrap .i64 (v+d.add))]=intsE ((a.eff.delta.take (k+1)).foldl addC X):=by
      rw [hfs,addC,getD_get hvv]
      simp [intsE,List.map_set]
     repeat' (first
|(with_reducible first|apply EvK.seq|apply EvK.block)
|((with_reducible apply EvK.text);(try case hm=>exact rfl))
|((with_reducible apply EvK.drawn);(case hm=>exact rfl))
|(with_reducible first|apply EvK.skip|apply thenK_n)
|((with_reducible apply EvK.cond_t);(case hc=>exact rfl))
|((with_reducible apply EvO.spd_t);(case hp=>exact fao))
|(with_reducible first|apply EvO.nilT|apply EvO.nilB)
|((with_reducible apply EvO.u0);(case hx=>first
|((with_reducible apply OpR.addw (m:=v) (n:=d.add));(case hx|hy=>exact rfl))
|((with_reducible apply OpR.sti);(case hs=>exact fun _=>rfl);(case ha|hy|ht|hone=>exact rfl);(case hn=>kernel_rfl);(case hb=>exact rfl);(case hk=>exact hk');(case hj=>exact rfl);(case hv=>exact hst);(case hf=>exact leq))
|exact opq))
|fail)
     exact ⟨k+1,rfl,rfl,by omega,by omega⟩
    ·
     rw [List.take_of_length_le g4]
     repeat' (first
|(with_reducible apply EvK.seq)
|((with_reducible apply EvK.text);(try case hm=>exact rfl))
|(with_reducible first|apply EvK.exit|apply thenK_n|apply thenK_e|apply blockK_n|apply blockK_h)
|((with_reducible apply EvK.cond_f);(case hc=>exact rfl))
|((with_reducible apply EvO.spd_f);(case hp=>exact fao))
|(with_reducible apply EvO.nilT)
|((with_reducible apply EvO.u0);(case hx=>exact opq))
|fail)
     exact ⟨q+1,rfl,by rw [hsn];rfl,by omega,by omega⟩
   ·
    have hadd:addE m X e=X:=by unfold addE evChg;rw [if_neg hk];rfl
    rw [hadd] at hsn
    repeat' (first
|(with_reducible first|apply EvK.seq|apply EvK.block)
|((with_reducible apply EvK.text);(try case hm=>exact rfl))
|(with_reducible first|apply EvK.skip|apply EvK.exit|apply thenK_n|apply thenK_e|apply blockK_h)
|((with_reducible apply EvK.cond_t);(case hc=>exact rfl))
|((with_reducible apply EvO.spd_t);(case hp=>exact fao))
|((with_reducible apply EvO.spn_t);(case hp=>exact fao))
|(with_reducible apply EvO.nilT)
|((with_reducible apply EvO.u0);(case hx=>exact opq))
|fail)
    exact ⟨q+1,rfl,by rw [hsn];rfl,by omega,by omega⟩
  ·
   rw [List.take_of_length_le g3]
   repeat' (first
|(with_reducible apply EvK.seq)
|((with_reducible apply EvK.text);(try case hm=>exact rfl))
|(with_reducible first|apply EvK.exit|apply EvK.ret|apply thenK_n|apply thenK_e|apply blockK_h)
|((with_reducible apply EvK.cond_f);(case hc=>exact rfl))
|((with_reducible apply EvO.spd_f);(case hp=>exact fao))
|(with_reducible apply EvO.nilT)
|((with_reducible apply EvO.u0);(case hx=>exact opq))
|fail)
   exact ⟨.inr rfl,rfl⟩
end Go.Proofs.YtgbfedgghjcdcaaGreatDoor
