/- The reference's models: when they are valid;the reference's numbers of cells,as contracts. No condition. -/
import Derived.Test.YtgbfedgghjcdcaaGreatDoorNF
import Derived.Test.YtgbfedgghjcdcaaGreatDoorTS
set_option linter.unusedSimpArgs false
set_option linter.unusedVariables false
set_option linter.unusedSectionVars false
namespace Go.Proofs.YtgbfedgghjcdcaaGreatDoor
open Go.RowKit
set_option maxRecDepth 100000
set_option maxHeartbeats 32000000
theorem rmvalid_c {m:Md} (hm:MdL m) (hef:∀ a∈m.acts,EfB a.eff) (hop:m.ops.length≤4398046511104):Cl cfg 50 [.t (mdA m)] [] (.t (.bool (modelB m))) []:=by
 have hlN:=nmE_len m.fams
 have hmf:=hm.fams
 have kv:=rlay_c (S:=m.sorts) (L:=m.tables) (by have:=hm.sorts;omega) (by have:=hm.tables;omega) (fun t ht=>by have:=hm.cols t ht;omega)
 have kd:=rdist_c (L:=m.fams) (by omega)
 cases hv:layB m.sorts m.tables with
 | false=>
  have e0:modelB m=false:=by unfold modelB;rw [hv];rfl
  rw [hv] at kv
  rw [mdA_eq,e0]
  refine Cl.of_body rfl Tryz.func50 rfl rfl rfl ?_
  repeat' (first
|(with_reducible apply EvK.seq)
|((with_reducible apply EvK.text);(try case hm=>exact rfl))
|(with_reducible first|apply EvK.ret|apply thenK_r)
|((with_reducible apply EvK.cond_t);(case hc=>exact rfl))
|(with_reducible apply EvO.nilT)
|((with_reducible apply EvO.gf);(case hW=>exact rfl))
|((with_reducible apply EvO.u0);(case hx=>first
|(exact oqF kv)
|exact opq))
|fail)
  exact ⟨.inr rfl,rfl⟩
 | true=>
  have kc:=rcons_c hm hv
  have ka:=ract_c hm hv hef hop
  have kh:=rhidden_c hm hv
  rw [hv] at kv
  obtain ⟨d,hd⟩:∃ d,distB m.fams=d:=⟨_,rfl⟩
  obtain ⟨b1,hb1⟩:∃ b,consB m (rngs m.sorts m.tables true)=b:=⟨_,rfl⟩
  obtain ⟨b2,hb2⟩:∃ b,actsB m (rngs m.sorts m.tables true).length=b:=⟨_,rfl⟩
  obtain ⟨b3,hb3⟩:∃ b,hidesB m=b:=⟨_,rfl⟩
  have e0:modelB m=((decide (m.fams.length≤24) && d) && (b1 && (b2 && b3))):=by unfold modelB;rw [hv,hd,hb1,hb2,hb3];rfl
  rw [hd] at kd
  rw [hb1] at kc
  rw [hb2] at ka
  rw [hb3] at kh
  rw [mdA_eq] at kc ka kh ⊢
  rw [e0]
  refine Cl.of_body rfl Tryz.func50 rfl rfl rfl ?_
  by_cases hf:m.fams.length≤24
  ·
   rw [decide_eq_true hf]
   cases d with
   | false=>
    repeat' (first
|(with_reducible apply EvK.seq)
|((with_reducible apply EvK.text);(try case hm=>exact rfl))
|(with_reducible first|apply EvK.ret|apply thenK_r)
|((with_reducible apply EvK.cond_t);(case hc=>exact rfl))
|((with_reducible apply EvO.spd_yf);(case hp=>exact fao))
|(with_reducible apply EvO.nilT)
|((with_reducible apply EvO.gt0);(case hW=>exact rfl);(case hx=>first
|(exact oqF kd)
|exact opq))
|((with_reducible apply EvO.u0);(case hx=>first
|(exact oqF kv)
|exact opq))
|fail)
    exact ⟨.inr rfl,rfl⟩
   | true=>
    cases b1 with
    | false=>
     repeat' (first
|(with_reducible apply EvK.seq)
|((with_reducible apply EvK.text);(try case hm=>exact rfl))
|(with_reducible first|apply EvK.skip|apply EvK.ret|apply thenK_n)
|((with_reducible apply EvK.cond_f);(case hc=>exact rfl))
|((with_reducible apply EvO.spd_yf);(case hp=>exact fao))
|(with_reducible apply EvO.nilT)
|((with_reducible apply EvO.gf);(case hW=>exact rfl))
|((with_reducible apply EvO.gt0);(case hW=>exact rfl);(case hx=>first
|(exact oqF kd)
|exact opq))
|((with_reducible apply EvO.u0);(case hx=>first
|(exact oqF kv)
|(exact oqF kc)
|exact opq))
|fail)
     exact ⟨.inr rfl,rfl⟩
    | true=>
     cases b2 with
     | false=>
      repeat' (first
|(with_reducible apply EvK.seq)
|((with_reducible apply EvK.text);(try case hm=>exact rfl))
|(with_reducible first|apply EvK.skip|apply EvK.ret|apply thenK_n)
|((with_reducible apply EvK.cond_f);(case hc=>exact rfl))
|((with_reducible apply EvO.spd_yf);(case hp=>exact fao))
|(with_reducible apply EvO.nilT)
|((with_reducible apply EvO.gf);(case hW=>exact rfl))
|((with_reducible apply EvO.gt0);(case hW=>exact rfl);(case hx=>first
|(exact oqF kd)
|(exact oqF ka)
|exact opq))
|((with_reducible apply EvO.u0);(case hx=>first
|(exact oqF kv)
|(exact oqF kc)
|exact opq))
|fail)
      exact ⟨.inr rfl,rfl⟩
     | true=>
      repeat' (first
|(with_reducible apply EvK.seq)
|((with_reducible apply EvK.text);(try case hm=>exact rfl))
|(with_reducible first|apply EvK.skip|apply EvK.ret|apply thenK_n)
|((with_reducible apply EvK.cond_f);(case hc=>exact rfl))
|((with_reducible apply EvO.spd_yf);(case hp=>exact fao))
|(with_reducible apply EvO.nilT)
|((with_reducible apply EvO.gt0);(case hW=>exact rfl);(case hx=>first
|(exact oqF kd)
|(exact oqF ka)
|(exact oqF kh)
|exact opq))
|((with_reducible apply EvO.u0);(case hx=>first
|(exact oqF kv)
|(exact oqF kc)
|exact opq))
|fail)
      exact ⟨.inr rfl,rfl⟩
  ·
   rw [decide_eq_false hf]
   repeat' (first
|(with_reducible apply EvK.seq)
|((with_reducible apply EvK.text);(try case hm=>exact rfl))
|(with_reducible first|apply EvK.ret|apply thenK_r)
|((with_reducible apply EvK.cond_t);(case hc=>exact rfl))
|((with_reducible apply EvO.spd_yt);(case hp=>exact fao))
|(with_reducible apply EvO.nilT)
|((with_reducible apply EvO.gf);(case hW=>exact rfl))
|((with_reducible apply EvO.gt0);(case hW=>exact rfl);(case hx=>exact opq))
|((with_reducible apply EvO.u0);(case hx=>first
|(exact oqF kv)
|exact opq))
|fail)
   exact ⟨.inr rfl,rfl⟩
theorem risst_c (k:Int):Cl cfg 80 [.t (.int .i64 k)] [] (.t (.bool (strictK k))) []:=by
 refine Cl.of_body rfl Tryz.func80 rfl rfl rfl ?_
 repeat' (first
|(with_reducible apply EvK.seq)
|((with_reducible apply EvK.text);(try case hm=>exact rfl))
|(with_reducible apply EvK.ret)
|((with_reducible apply EvO.spd) <;> intro hq)
|((with_reducible apply EvO.spd_y) <;> intro hq)
|(with_reducible apply EvO.nilT)
|((with_reducible apply EvO.gf);(case hW=>exact rfl))
|((with_reducible apply EvO.gt0);(case hW=>exact rfl);(case hx=>exact opq))
|((with_reducible apply EvO.u0);(case hx=>exact opq))
|fail)
 all_goals (refine fin_b (.inr rfl) rfl ?_;unfold strictK;first|(simp_all;done)|(simp_all;omega))
theorem num_prod {S C:List Int} (hs:soundB S=true) (hc:C.all (colOk S)=true) (hl:C.length≤3):numberS S C=prodC S C:=by
 unfold numberS
 rw [decide_eq_true hl,hs,hc]
 rfl
theorem rsize_c {m:Md} {t:Tb} (hm:MdL m) (hs:soundB m.sorts=true) (ht:t.cols.all (colOk m.sorts)=true) (hl:t.cols.length≤3):Cl cfg 79 [.t (mdA m),.t (.agg (tbC t))] [] (.t (.int .i64 (numberS m.sorts t.cols))) []:=by
 rw [num_prod hs ht hl]
 have hlS:=intsE_len m.sorts
 have hms:=hm.sorts
 obtain ⟨nm,kd,C,lo,hi,fi⟩:=t
 have ht:C.all (colOk m.sorts)=true:=ht
 have hl:C.length≤3:=hl
 have hlC:=intsE_len C
 have e1:tbC ⟨nm,kd,C,lo,hi,fi⟩=[.str nm,.int .i64 kd,intsA C,.int .i64 lo,.int .i64 hi,.int .i64 fi]:=rfl
 rw [mdA_eq,e1]
 show Cl cfg _ _ [] (.t (.int .i64 (prodC m.sorts C))) []
 refine Cl.of_body rfl Tryz.func79 rfl rfl rfl ?_
 repeat' (first
|(with_reducible first|apply EvK.seq|apply EvK.block)
|((with_reducible apply EvK.text);(try case hm=>exact rfl))
|(with_reducible apply EvO.nilT)
|((with_reducible apply EvO.u0);(case hx=>exact opq))
|fail)
 apply EvK.loopV
 case ho=>exact rfl
 case hp=>exact rfl
 case hl=>exact rfl
 case hs=>exact slt
 refine EvL.ind (fun q:Nat=>[(5,.t (.int .i64 (prodC m.sorts (C.take q)))),(6,.t (.int .i64 (q:Int)))]) (fun q=>q≤C.length) (fun q=>C.length - q) 0 rfl (by omega) (fun q hq=>?_)
 rcases Nat.lt_or_ge q C.length with h4|h4
 ·
  obtain ⟨c,hc'⟩:=get_of_lt h4
  have hc:=intsE_get hc'
  have ho:=List.all_eq_true.1 ht c (List.mem_of_getElem? hc')
  have hb:=prodC_bnd hs (C:=C.take (q+1)) (List.all_eq_true.2 fun x hx=>List.all_eq_true.1 ht x (List.mem_of_mem_take hx)) (by simp;omega)
  have hsn:=prodC_snoc (S:=m.sorts) hc'
  rw [hsn] at hb
  simp only [colOk,Bool.and_eq_true,decide_eq_true_eq] at ho
  obtain ⟨h0,h5⟩:=ho
  obtain ⟨s,hs'⟩:=get_of_lt (xs:=m.sorts) (k:=c.toNat) (by omega)
  have hg:=intsE_get hs'
  rw [getD_get hs'] at hb hsn
  obtain ⟨p,hp⟩:∃ p,prodC m.sorts (C.take q)=p:=⟨_,rfl⟩
  rw [hp] at hb hsn ⊢
  repeat' (first
|(with_reducible first|apply EvK.seq|apply EvK.block)
|((with_reducible apply EvK.text);(try case hm=>exact rfl))
|((with_reducible apply EvK.drawn);(case hm=>exact rfl))
|(with_reducible first|apply EvK.skip|apply thenK_n)
|((with_reducible apply EvK.cond_t);(case hc=>exact rfl))
|((with_reducible apply EvK.cond_f);(case hc=>exact rfl))
|((with_reducible apply EvO.spd_t);(case hp=>exact fao))
|((with_reducible apply EvO.spd_f);(case hp=>exact fao))
|((with_reducible apply EvO.spd_yf);(case hp=>exact fao))
|(with_reducible first|apply EvO.nilT|apply EvO.nilB)
|((with_reducible apply EvO.gt0);(case hW=>exact rfl);(case hx=>exact opq))
|((with_reducible apply EvO.u0);(case hx=>first
|((with_reducible apply OpR.mul);(case hx|hy=>exact rfl);(case h=>omega))
|exact opq))
|fail)
  refine ⟨q+1,?_,rfl,by omega,by omega⟩
  rw [hsn];rfl
 ·
  rw [List.take_of_length_le h4]
  repeat' (first
|(with_reducible apply EvK.seq)
|((with_reducible apply EvK.text);(try case hm=>exact rfl))
|(with_reducible first|apply EvK.exit|apply EvK.ret|apply thenK_n|apply thenK_e|apply blockK_h)
|((with_reducible apply EvK.cond_f);(case hc=>exact rfl))
|((with_reducible apply EvO.spd_f);(case hp=>exact fao))
|(with_reducible apply EvO.nilT)
|((with_reducible apply EvO.u0);(case hx=>exact opq))
|fail)
  exact ⟨.inr rfl,rfl⟩
theorem rstrictn_c {m:Md} (hm:MdL m) (hv:layB m.sorts m.tables=true):Cl cfg 51 [.t (mdA m)] [] (.t (.int .i64 (cntOf m.sorts true m.tables))) []:=by
 have hlL:=tbE_len m.tables
 have hfew:=lay_few hv
 have hsd:=lay_sound hv
 have ksz:=fun (t:Tb) h1 h2=>rsize_c (t:=t) hm hsd h1 h2
 rw [mdA_eq] at ksz ⊢
 refine Cl.of_body rfl Tryz.func51 rfl rfl rfl ?_
 repeat' (first
|(with_reducible first|apply EvK.seq|apply EvK.block)
|((with_reducible apply EvK.text);(try case hm=>exact rfl))
|(with_reducible apply EvO.nilT)
|((with_reducible apply EvO.u0);(case hx=>exact opq))
|fail)
 apply EvK.loopV
 case ho=>exact rfl
 case hp=>exact rfl
 case hl=>exact rfl
 case hs=>exact slt
 refine EvL.ind (fun q:Nat=>[(3,.t (.int .i64 (cntOf m.sorts true (m.tables.take q)))),(4,.t (.int .i64 (q:Int)))]) (fun q=>q≤m.tables.length) (fun q=>m.tables.length - q) 0 rfl (by omega) (fun q hq=>?_)
 rcases Nat.lt_or_ge q m.tables.length with h3|h3
 ·
  obtain ⟨t,ht⟩:=get_of_lt h3
  have hc:=tbE_get ht
  obtain ⟨c1,c2,c3⟩:=lay_cols hv ht
  have kn:=ksz t c3 c1
  have kst:=risst_c t.kind
  have hs1:=cnt_snoc (S:=m.sorts) true ht
  have hb1:=cnt_bnd (S:=m.sorts) true (m.tables.take q)
  have hbN:=numberS_bnd m.sorts t.cols
  have hlq:(m.tables.take q).length=q:=by simp;omega
  rw [hlq] at hb1
  obtain ⟨a,ha⟩:∃ a,cntOf m.sorts true (m.tables.take q)=a:=⟨_,rfl⟩
  obtain ⟨N,hN⟩:∃ N,numberS m.sorts t.cols=N:=⟨_,rfl⟩
  rw [ha] at hs1 hb1 ⊢
  rw [hN] at hs1 hbN kn
  cases hst:strictK t.kind with
  | true=>
   rw [hst] at kst
   rw [hst,if_pos rfl] at hs1
   repeat' (first
|(with_reducible first|apply EvK.seq|apply EvK.block)
|((with_reducible apply EvK.text);(try case hm=>exact rfl))
|((with_reducible apply EvK.drawn);(case hm=>exact rfl))
|(with_reducible first|apply EvK.skip|apply thenK_n)
|((with_reducible apply EvK.cond_t);(case hc=>exact rfl))
|((with_reducible apply EvO.spd_t);(case hp=>exact fao))
|(with_reducible first|apply EvO.nilT|apply EvO.nilB)
|((with_reducible apply EvO.u0);(case hx=>first
|(exact oqF kst)
|(exact oqF kn)
|exact opq))
|fail)
   refine ⟨q+1,?_,rfl,by omega,by omega⟩
   rw [hs1];rfl
  | false=>
   rw [hst] at kst
   rw [hst,if_neg (by decide)] at hs1
   repeat' (first
|(with_reducible first|apply EvK.seq|apply EvK.block)
|((with_reducible apply EvK.text);(try case hm=>exact rfl))
|(with_reducible first|apply EvK.skip|apply thenK_n|apply blockK_n)
|((with_reducible apply EvK.cond_t);(case hc=>exact rfl))
|((with_reducible apply EvK.cond_f);(case hc=>exact rfl))
|((with_reducible apply EvO.spd_t);(case hp=>exact fao))
|(with_reducible apply EvO.nilT)
|((with_reducible apply EvO.u0);(case hx=>first
|(exact oqF kst)
|exact opq))
|fail)
   refine ⟨q+1,?_,rfl,by omega,by omega⟩
   rw [hs1];rfl
 ·
  rw [List.take_of_length_le h3]
  repeat' (first
|(with_reducible apply EvK.seq)
|((with_reducible apply EvK.text);(try case hm=>exact rfl))
|(with_reducible first|apply EvK.exit|apply EvK.ret|apply thenK_n|apply thenK_e|apply blockK_h)
|((with_reducible apply EvK.cond_f);(case hc=>exact rfl))
|((with_reducible apply EvO.spd_f);(case hp=>exact fao))
|(with_reducible apply EvO.nilT)
|((with_reducible apply EvO.u0);(case hx=>exact opq))
|fail)
  exact ⟨.inr rfl,rfl⟩
theorem mgt_len (S:List Int):∀ (l:List Tb) (a:Int),a+(l.flatMap (mrgT S)).length=l.foldl (fun n t=>if strictK t.kind=false then n+numberS S t.cols else n) a
 | [],a=>by simp
 | t::l,a=>by
  have hb:=numberS_bnd S t.cols
  have ih:=mgt_len S l (if strictK t.kind=false then a+numberS S t.cols else a)
  rw [List.flatMap_cons,List.foldl_cons,← ih,List.length_append]
  unfold mrgT
  cases strictK t.kind <;> simp <;> omega
theorem mrgL_len (S:List Int) (l:List Tb):((mrgL S l).length:Int)=cntOf S false l:=by
 have:=mgt_len S l 0
 unfold cntOf mrgL
 omega
def mrgP (S:List Int) (L:List Tb) (q k:Nat) (t:Tb):List Tb:=(L.take q).flatMap (mrgT S)++List.replicate k t
theorem tbE_app (l m:List Tb):tbE l++tbE m=tbE (l++m):=by unfold tbE;rw [List.map_append]
theorem rmerged_c {m:Md} (hm:MdL m) (hv:layB m.sorts m.tables=true):Cl cfg 28 [.t (mdA m)] [] (.ls 0) [.row false false 6 (tbE (mrgL m.sorts m.tables))]:=by
 have hlL:=tbE_len m.tables
 have hfew:=lay_few hv
 have hsd:=lay_sound hv
 have ksz:=fun (t:Tb) h1 h2=>rsize_c (t:=t) hm hsd h1 h2
 obtain ⟨S,hS⟩:∃ S,m.sorts=S:=⟨_,rfl⟩
 obtain ⟨L,hL⟩:∃ L,m.tables=L:=⟨_,rfl⟩
 rw [mdA_eq] at ksz ⊢
 rw [hS] at hv hfew hsd ksz ⊢
 rw [hL] at hv hfew hlL ksz ⊢
 unfold mrgL
 refine Cl.of_body rfl Tryz.func28 rfl rfl rfl ?_
 repeat' (first
|(with_reducible first|apply EvK.seq|apply EvK.block)
|((with_reducible apply EvK.text);(try case hm=>exact rfl))
|(with_reducible apply EvO.nilT)
|((with_reducible apply EvO.u0);(case hx=>exact opq))
|fail)
 apply EvK.loopV
 case ho=>exact rfl
 case hp=>exact rfl
 case hl=>exact rfl
 case hs=>exact slt
 refine EvL.indF (fun x:Nat×Bool=>[(3,.ls 1),(4,.t (.int .i64 (x.1:Int)))]) (fun x=>[.box false 30 (([intsA S,.arr (tbE L),.arr (nmE m.fams),.arr (cnE m.cons),.arr (opE m.ops),.arr (acE m.acts),.arr (hdE m.hides)]:List AV).map .t),.row false x.2 6 (tbE ((L.take x.1).flatMap (mrgT S)))]) (fun x=>x.1≤L.length) (fun x=>L.length - x.1) (0,false) rfl rfl (by simp) (fun x hq=>?_)
 obtain ⟨q,tch⟩:=x
 dsimp only at hq ⊢
 rcases Nat.lt_or_ge q L.length with h3|h3
 ·
  obtain ⟨t,ht⟩:=get_of_lt h3
  have hc:=tbE_get ht
  obtain ⟨c1,c2,c3⟩:=lay_cols hv ht
  have kN:=ksz t c3 c1
  have kst:=risst_c t.kind
  have hbN:=numberS_bnd S t.cols
  have hnz:numberS S t.cols≠0:=by
   have h1:=lay_tab hv ht
   simp only [tabOk,Bool.and_eq_true,Bool.not_eq_true',decide_eq_false_iff_not] at h1
   exact h1.2.2.2.1
  obtain ⟨N,hN⟩:∃ N,(numberS S t.cols).toNat=N:=⟨_,rfl⟩
  have hN':numberS S t.cols=(N:Int):=by omega
  rw [hN'] at kN hbN hnz
  cases hs:strictK t.kind with
  | false=>
   rw [hs] at kst
   have h0:(L.take q).flatMap (mrgT S)=mrgP S L q 0 t:=by unfold mrgP;simp
   have hend:mrgP S L q N t=(L.take (q+1)).flatMap (mrgT S):=by
    unfold mrgP
    rw [flat_snoc ht]
    unfold mrgT
    rw [hs,if_neg (by decide),hN]
   rw [h0]
   have hlP:∀ k,k≤N→(mrgP S L q k t).length≤4000:=fun k hk=>by
    have h1:=mrgL_len S (L.take q)
    have h2:=cnt_bnd (S:=S) false (L.take q)
    have h4:(L.take q).length≤12:=by simp;omega
    unfold mrgL at h1
    unfold mrgP
    rw [List.length_append,List.length_replicate]
    omega
   repeat' (first
|(with_reducible first|apply EvK.seq|apply EvK.block)
|((with_reducible apply EvK.text);(try case hm=>exact rfl))
|(with_reducible first|apply EvK.skip|apply thenK_n)
|((with_reducible apply EvK.cond_t);(case hc=>exact rfl))
|((with_reducible apply EvO.spd_t);(case hp=>exact fao))
|(with_reducible apply EvO.nilT)
|((with_reducible apply EvO.u0);(case hx=>exact opq))
|fail)
   apply EvK.loopV
   case ho=>exact rfl
   case hp=>exact rfl
   case hl=>exact rfl
   case hs=>exact slt
   refine EvL.indF (fun x:Nat×Bool=>[(3,.ls 1),(5,.t (.int .i64 (x.1:Int)))]) (fun x=>[.box false 30 (([intsA S,.arr (tbE L),.arr (nmE m.fams),.arr (cnE m.cons),.arr (opE m.ops),.arr (acE m.acts),.arr (hdE m.hides)]:List AV).map .t),.row false x.2 6 (tbE (mrgP S L q x.1 t))]) (fun x=>x.1≤N) (fun x=>N - x.1) (0,tch) rfl rfl (by simp) (fun x hk=>?_)
   obtain ⟨k,tch2⟩:=x
   dsimp only at hk ⊢
   rcases Nat.lt_or_ge k N with h4|h4
   ·
    have hsn:tbE (mrgP S L q k t)++[[.str t.name,.int .i64 t.kind,intsA t.cols,.int .i64 t.lo,.int .i64 t.hi,.int .i64 t.first]]=tbE (mrgP S L q (k+1) t):=by
     have:mrgP S L q (k+1) t=mrgP S L q k t++[t]:=by unfold mrgP;rw [repl_snoc,List.append_assoc]
     rw [this]
     exact tbE_app _ [t]
    have hlX:lenOk ((tbE (mrgP S L q k t)).length+1) 72=true:=by
     have:=hlP k hk
     rw [tbE_len]
     simp [lenOk]
     omega
    repeat' (first
|(with_reducible first|apply EvK.seq|apply EvK.block)
|((with_reducible apply EvK.text);(try case hm=>exact rfl))
|((with_reducible apply EvK.drawn);(case hm=>exact rfl))
|(with_reducible first|apply EvK.skip|apply thenK_n)
|((with_reducible apply EvK.cond_t);(case hc=>exact rfl))
|((with_reducible apply EvO.spd_t);(case hp=>exact fao))
|(with_reducible first|apply EvO.nilT|apply EvO.nilB)
|((with_reducible apply EvO.u);(case hx=>((with_reducible apply OpR.apr);(case hs=>exact fun _=>rfl);(case ha|ht=>exact rfl);(case hr=>first|(with_reducible exact rw0)|(with_reducible exact rw1)|(with_reducible exact rw2)|(with_reducible exact rw3)|(with_reducible exact rw4)|exact rfl);(case hx|hy|hn|hb|hok=>exact rfl);(case hlen=>exact hlX);(case hv=>exact hsn);(case hk=>exact kfr);(case hf=>exact leq))))
|((with_reducible apply EvO.gt0);(case hW=>exact rfl);(case hx=>first
|(exact oqF kst)
|exact opq))
|((with_reducible apply EvO.u0);(case hx=>first
|(exact oqF kN)
|exact opq))
|fail)
    exact ⟨(k+1,true),rfl,rfl,by dsimp only;omega,by dsimp only;omega⟩
   ·
    obtain rfl:k=N:=by omega
    rw [hend]
    repeat' (first
|(with_reducible apply EvK.seq)
|((with_reducible apply EvK.text);(try case hm=>exact rfl))
|((with_reducible apply EvK.drawn);(case hm=>exact rfl))
|(with_reducible first|apply EvK.exit|apply thenK_n|apply thenK_e|apply blockK_n|apply blockK_h)
|((with_reducible apply EvK.cond_f);(case hc=>exact rfl))
|((with_reducible apply EvO.spd_f);(case hp=>exact fao))
|(with_reducible apply EvO.nilT)
|((with_reducible apply EvO.gf);(case hW=>exact rfl))
|((with_reducible apply EvO.u0);(case hx=>first
|(exact oqF kN)
|exact opq))
|fail)
    exact ⟨(q+1,tch2),rfl,rfl,by dsimp only;omega,by dsimp only;omega⟩
  | true=>
   rw [hs] at kst
   have h0:(L.take q).flatMap (mrgT S)=(L.take (q+1)).flatMap (mrgT S):=by
    rw [flat_snoc ht]
    unfold mrgT
    rw [hs,if_pos rfl,List.append_nil]
   rw [h0]
   repeat' (first
|(with_reducible first|apply EvK.seq|apply EvK.block)
|((with_reducible apply EvK.text);(try case hm=>exact rfl))
|(with_reducible first|apply EvK.skip|apply thenK_n)
|((with_reducible apply EvK.cond_t);(case hc=>exact rfl))
|((with_reducible apply EvO.spd_t);(case hp=>exact fao))
|(with_reducible apply EvO.nilT)
|((with_reducible apply EvO.u0);(case hx=>exact opq))
|fail)
   apply EvK.loopV
   case ho=>exact rfl
   case hp=>exact rfl
   case hl=>exact rfl
   case hs=>exact slt
   refine EvL.step ?_
   repeat' (first
|(with_reducible apply EvK.seq)
|((with_reducible apply EvK.text);(try case hm=>exact rfl))
|((with_reducible apply EvK.drawn);(case hm=>exact rfl))
|(with_reducible first|apply EvK.exit|apply thenK_n|apply thenK_e|apply blockK_n|apply blockK_h)
|((with_reducible apply EvK.cond_f);(case hc=>exact rfl))
|((with_reducible apply EvO.spd_t);(case hp=>exact fao))
|(with_reducible apply EvO.nilT)
|((with_reducible apply EvO.gt0);(case hW=>exact rfl);(case hx=>first
|(exact oqF kst)
|exact opq))
|((with_reducible apply EvO.u0);(case hx=>first
|(exact oqF kN)
|exact opq))
|fail)
   exact ⟨(q+1,tch),rfl,rfl,by dsimp only;omega,by dsimp only;omega⟩
 ·
  rw [List.take_of_length_le h3]
  repeat' (first
|(with_reducible apply EvK.seq)
|((with_reducible apply EvK.text);(try case hm=>exact rfl))
|(with_reducible first|apply EvK.exit|apply EvK.ret|apply thenK_n|apply thenK_e|apply blockK_h)
|((with_reducible apply EvK.cond_f);(case hc=>exact rfl))
|((with_reducible apply EvO.spd_f);(case hp=>exact fao))
|(with_reducible apply EvO.nilT)
|((with_reducible apply EvO.u0);(case hx=>exact opq))
|fail)
  exact ⟨.inr rfl,rfl⟩
end Go.Proofs.YtgbfedgghjcdcaaGreatDoor
