/- Layouts as the code judges them,as contracts. No condition. -/
import Derived.Test.YtcpgmmlaimkojaaGreatDoorTM
import Derived.Test.YtcpgmmlaimkojaaGreatDoorTNC
import Derived.Test.YtcpgmmlaimkojaaGreatDoorTP
set_option linter.unusedSimpArgs false
set_option linter.unusedVariables false
set_option linter.unusedSectionVars false
namespace Go.Proofs.YtcpgmmlaimkojaaGreatDoor
open Go.RowKit
set_option maxRecDepth 100000
set_option maxHeartbeats 16000000
theorem lnames_c (s:ByteArray):Cl cfg 108 [.t (.str s)] [] (.t (.bool (nmB s))) []:=by
 rw [← bso s]
 generalize s.data.toList=l
 have hsz:(bs l).size=l.length:=bs_size l
 have hn:nmB (bs l)=nameL l:=by unfold nmB;simp [bs]
 rw [hn]
 rcases Nat.lt_or_ge 1000000 l.length with h|h
 ·
  have h0:nameL l=false:=by
   unfold nameL
   rw [decide_eq_false (show ¬ l.length≤16 by omega)]
   first|rfl|exact Bool.and_false _
  rw [h0]
  refine Cl.of_body rfl Tryz.func108 rfl rfl rfl ?_
  exact drv
 ·exact lname_c h
def lyN (L:List Tb) (q:Nat):List ByteArray:=(L.take q).map (·.name)
theorem lyN_any {L:List Tb} {q:Nat} {s:ByteArray}:((lyN L q).any fun u=>decide (u=s))=(L.take q).any fun u=>decide (u.name=s):=by unfold lyN;rw [List.any_map];rfl
theorem lyN_len {L:List Tb} {q:Nat} (h:q≤L.length):(lyN L q).length=q:=by unfold lyN;simp;omega
theorem lyN_snoc {L:List Tb} {q:Nat} {t:Tb} (h:L[q]?=some t):strK (lyN L q)++[.str t.name]=strK (lyN L (q+1)):=by unfold lyN strK;rw [List.take_add_one,h];simp
def lyF (S:List Int) (L:List Tb) (q:Nat):Fr:=[.map false (strK (lyN L q)) (truV q),.box false 3 [.t (.int .i64 (cntOf S true (L.take q)))],.box false 3 [.t (.int .i64 (cntOf S false (L.take q)))]]
theorem clay_c {S:List Int} {L:List Tb} (hS:S.length≤140737488351232) (hL:L.length≤140737488351232) (hC:∀ t∈L,t.cols.length≤140737488351232):Cl cfg 84 [.t (intsA S),.t (.arr (tbE L))] [] (.t (.bool (layB S L))) []:=by
 rw [← lay_eq]
 have hlS:=intsE_len S
 have hlL:=tbE_len L
 have kS:=csized_c (S:=S) (by omega)
 obtain ⟨b1,hb1⟩:∃ b,decide ((S.length:Int)≤4)=b:=⟨_,rfl⟩
 obtain ⟨b2,hb2⟩:∃ b,decide ((L.length:Int)≤12)=b:=⟨_,rfl⟩
 obtain ⟨b3,hb3⟩:∃ b,soundB S=b:=⟨_,rfl⟩
 have k3:=call3_c b1 b2 b3
 rw [← hb1,← hb2] at k3
 have e1:decide (S.length≤4)=b1:=by rw [← hb1];simp;omega
 have e2:decide (L.length≤12)=b2:=by rw [← hb2];simp;omega
 obtain ⟨T,hT⟩:∃ T,(allG (tabC S L) 0 (L.drop 0) && (decide (cntOf S true L≤128) && decide (cntOf S false L≤64)))=T:=⟨_,rfl⟩
 have e0:layC S L=((b1 && (b2 && b3)) && T):=by rw [← hT];unfold layC;rw [e1,e2,hb3];rfl
 rw [e0]
 rw [hb3] at kS
 refine Cl.of_body rfl Tryz.func84 rfl rfl rfl ?_
 cases hb:(b1 && (b2 && b3)) with
 | false=>
  have k3:Cl cfg 106 [.t (.arr [[.bool (decide ((S.length:Int)≤4))],[.bool (decide ((L.length:Int)≤12))],[.bool b3]])] [] (.t (.bool false)) []:=by rw [← hb,← hb1,← hb2];exact k3
  repeat' (first
|(with_reducible apply EvK.seq)
|((with_reducible apply EvK.text);(try case hm=>exact rfl))
|(with_reducible first|apply EvK.ret|apply thenK_r)
|((with_reducible apply EvK.cond_t);(case hc=>exact rfl))
|(with_reducible apply EvO.nilT)
|((with_reducible apply EvO.u0);(case hx=>first
|((with_reducible apply OpR.mv);(conv=>lhs;whnf);try exact rfl)
|((with_reducible apply OpR.asg);(conv=>lhs;whnf);try exact rfl)
|((with_reducible apply OpR.bsl (es:=[[.bool (decide ((S.length:Int)≤4))],[.bool (decide ((L.length:Int)≤12))],[.bool b3]]));(case hw=>exact rfl);(case ho=>kernel_rfl);(case h=>kernel_rfl))
|(exact oqF kS)
|(exact oqF k3)
|((with_reducible apply OpR.len);(case ha|hy|ht|hs=>exact rfl);(case hn=>first|exact List.length_map _|exact rfl))
|exact OpR.r fun _=>rfl))
|fail)
  exact ⟨.inr rfl,rfl⟩
 | true=>
  have k3:Cl cfg 106 [.t (.arr [[.bool (decide ((S.length:Int)≤4))],[.bool (decide ((L.length:Int)≤12))],[.bool b3]])] [] (.t (.bool true)) []:=by rw [← hb,← hb1,← hb2];exact k3
  rw [Bool.and_eq_true,Bool.and_eq_true] at hb
  obtain ⟨hc1,hc2,hc3⟩:=hb
  have hsd:soundB S=true:=by rw [hb3,hc3]
  have h12:L.length≤12:=by rw [hc2] at e2;simpa using e2
  have h4:S.length≤4:=by rw [hc1] at e1;simpa using e1
  rw [Bool.true_and,← hT]
  repeat' (first
|(with_reducible first|apply EvK.seq|apply EvK.block)
|((with_reducible apply EvK.text);(try case hm=>exact rfl))
|(with_reducible first|apply EvK.skip|apply thenK_n)
|((with_reducible apply EvK.cond_f);(case hc=>exact rfl))
|(with_reducible apply EvO.nilT)
|((with_reducible apply EvO.u0);(case hx=>first
|((with_reducible apply OpR.mv);(conv=>lhs;whnf);try exact rfl)
|((with_reducible apply OpR.asg);(conv=>lhs;whnf);try exact rfl)
|((with_reducible apply OpR.bsl (es:=[[.bool (decide ((S.length:Int)≤4))],[.bool (decide ((L.length:Int)≤12))],[.bool b3]]));(case hw=>exact rfl);(case ho=>kernel_rfl);(case h=>kernel_rfl))
|(exact oqF kS)
|(exact oqF k3)
|((with_reducible apply OpR.len);(case ha|hy|ht|hs=>exact rfl);(case hn=>first|exact List.length_map _|exact rfl))
|((with_reducible apply OpR.al);(case hs=>exact fun _=>rfl);(case hz=>exact rfl);(case hc=>exact leq);(case hn=>exact lnx);(case hf=>exact leq))
|((with_reducible apply OpR.sto);(case hs=>exact fun _=>rfl);(case ha|hy=>exact rfl);(case ht=>first|(with_reducible exact sz0)|(with_reducible exact sz1)|(with_reducible exact sz2)|(with_reducible exact sz3)|(with_reducible exact sz4)|(with_reducible exact sz5)|(with_reducible exact sz6)|(with_reducible exact sz7)|(with_reducible exact sz8)|(with_reducible exact sz9)|exact rfl);(case hv=>exact rfl);(case ho=>kernel_rfl);(case hb=>exact rfl);(case hc=>kernel_rfl);(case hd=>exact leq);(case hf=>exact leq))
|exact OpR.r fun _=>rfl))
|fail)
  apply EvK.loopV
  case ho=>exact rfl
  case hp=>exact rfl
  case hl=>exact rfl
  case hs=>exact slt
  refine EvL.indF (fun q:Nat=>[(25,.t (.int .i64 (q:Int)))]) (fun q=>lyF S L q) (fun q=>q≤L.length∧allG (tabC S L) 0 (L.drop 0)=allG (tabC S L) q (L.drop q)) (fun q=>L.length - q) 0 rfl rfl ⟨by omega,rfl⟩ (fun q hq=>?_)
  obtain ⟨h1,h2⟩:=hq
  rw [h2]
  rcases Nat.lt_or_ge q L.length with h3|h3
  ·
   obtain ⟨t,ht⟩:=get_of_lt h3
   have hc:=tbE_get ht
   have kn:=lnames_c t.name
   have kw:=cwithin_c t.kind 0 5
   have kc:=ccolumned_c (S:=S) (C:=t.cols) (by omega) (hC t (List.mem_of_getElem? ht))
   have kr:=cranged_c t
   have ks:=cstrict_c t
   obtain ⟨a1,ha1⟩:∃ b,nmB t.name=b:=⟨_,rfl⟩
   obtain ⟨a3,ha3⟩:∃ b,(decide (0≤t.kind) && decide (t.kind≤5))=b:=⟨_,rfl⟩
   obtain ⟨a4,ha4⟩:∃ b,colmB S t.cols=b:=⟨_,rfl⟩
   obtain ⟨a5,ha5⟩:∃ b,rngC t=b:=⟨_,rfl⟩
   have htab:tabC S L q t=((a1 && (!((L.take q).any fun u=>decide (u.name=t.name)) && (a3 && (a4 && a5)))) && decide (t.first=cntOf S (strictK t.kind) (L.take q))):=by unfold tabC;rw [ha1,ha3,ha4,ha5]
   have hbad:=allG_bad (p:=tabC S L) ht
   have hok:=allG_ok (p:=tabC S L) ht
   rw [htab] at hbad hok
   rw [ha1] at kn
   rw [ha3] at kw
   rw [ha4] at kc
   rw [ha5] at kr
   have hks:=lyN_snoc ht
   have hvs:=truV_snoc q
   unfold lyF
   cases ha:(L.take q).any fun u=>decide (u.name=t.name) with
   | true=>
    obtain ⟨j,hf,hj⟩:=fstr_yes (s:=t.name) (N:=lyN L q) (by rw [lyN_any];exact ha)
    have hz:=truV_at (n:=q) (j:=j) (by rw [lyN_len h1] at hj;omega)
    have k5:=call5_c a1 false a3 a4 a5
    rw [Bool.false_and,Bool.and_false] at k5
    rw [hbad (by rw [ha];simp)]
    repeat' (first
|(with_reducible first|apply EvK.seq|apply EvK.block)
|((with_reducible apply EvK.text);(try case hm=>exact rfl))
|((with_reducible apply EvK.drawn);(case hm=>exact rfl))
|(with_reducible first|apply EvK.skip|apply EvK.ret|apply thenK_n|apply thenK_r|apply blockK_r)
|((with_reducible apply EvK.cond_t);(case hc=>exact rfl))
|((with_reducible apply EvO.spd_t);(case hp=>exact fao))
|(with_reducible apply EvO.nilT)
|((with_reducible apply EvO.u0);(case hx=>first
|((with_reducible apply OpR.lki);(case hm|hk|ho=>exact rfl);(case hf=>exact hf);(case hz=>exact hz))
|((with_reducible apply OpR.bsl (es:=[[.bool a1],[.bool false],[.bool a3],[.bool a4],[.bool a5]]));(case hw=>exact rfl);(case ho=>kernel_rfl);(case h=>kernel_rfl))
|(exact oqF kn)
|(exact oqF kw)
|(exact oqF kc)
|(exact oqF kr)
|(exact oqF k5)
|exact opq))
|fail)
    exact ⟨.inr rfl,rfl⟩
   | false=>
    have hf:=fstr_no (s:=t.name) (N:=lyN L q) (by rw [lyN_any];exact ha)
    have k5:=call5_c a1 true a3 a4 a5
    rw [Bool.true_and] at k5
    rw [ha,Bool.not_false,Bool.true_and] at hbad hok
    cases hb5:(a1 && (a3 && (a4 && a5))) with
    | false=>
     rw [hb5] at k5
     rw [hbad (by rw [hb5];simp)]
     repeat' (first
|(with_reducible first|apply EvK.seq|apply EvK.block)
|((with_reducible apply EvK.text);(try case hm=>exact rfl))
|((with_reducible apply EvK.drawn);(case hm=>exact rfl))
|(with_reducible first|apply EvK.skip|apply EvK.ret|apply thenK_n|apply thenK_r|apply blockK_r)
|((with_reducible apply EvK.cond_t);(case hc=>exact rfl))
|((with_reducible apply EvO.spd_t);(case hp=>exact fao))
|(with_reducible apply EvO.nilT)
|((with_reducible apply EvO.u0);(case hx=>first
|((with_reducible apply OpR.lk);(case hm|hk|ho=>exact rfl);(case hf=>exact hf);(case hz=>exact rfl))
|((with_reducible apply OpR.bsl (es:=[[.bool a1],[.bool true],[.bool a3],[.bool a4],[.bool a5]]));(case hw=>exact rfl);(case ho=>kernel_rfl);(case h=>kernel_rfl))
|(exact oqF kn)
|(exact oqF kw)
|(exact oqF kc)
|(exact oqF kr)
|(exact oqF k5)
|exact opq))
|fail)
     exact ⟨.inr rfl,rfl⟩
    | true=>
     rw [hb5] at k5
     rw [hb5,Bool.true_and,decide_eq_true_eq] at hbad hok
     have hcm:colmB S t.cols=true:=by
      rw [Bool.and_eq_true,Bool.and_eq_true,Bool.and_eq_true] at hb5
      rw [ha4,hb5.2.2.1]
     have hcm2:=hcm
     unfold colmB at hcm2
     rw [Bool.and_eq_true,decide_eq_true_eq] at hcm2
     have kwd:=cwidth_c (S:=S) (by omega) hsd hcm2.2 hcm2.1
     have hbP:=prodC_bnd hsd hcm2.2 hcm2.1
     have hs1:=cnt_next (s:=true) hsd hcm ht
     have hs0:=cnt_next (s:=false) hsd hcm ht
     have hb1':=cnt_bnd (S:=S) true (L.take q)
     have hb0':=cnt_bnd (S:=S) false (L.take q)
     have hlq:(L.take q).length=q:=by simp;omega
     rw [hlq] at hb1' hb0'
     obtain ⟨P,hP⟩:∃ P,prodC S t.cols=P:=⟨_,rfl⟩
     rw [hP] at kwd hbP
     cases hst:strictK t.kind with
     | true=>
      rw [hst] at ks hbad hok
      obtain ⟨x,hx⟩:∃ x,cntOf S true (L.take q)=x:=⟨_,rfl⟩
      rw [hx] at hb1' hbad hok ⊢
      by_cases hfi:t.first=x
      ·
       repeat' (first
|(with_reducible first|apply EvK.seq|apply EvK.block)
|((with_reducible apply EvK.text);(try case hm=>exact rfl))
|((with_reducible apply EvK.drawn);(case hm=>exact rfl))
|(with_reducible first|apply EvK.skip|apply thenK_n)
|((with_reducible apply EvK.cond_t);(case hc=>exact rfl))
|((with_reducible apply EvK.cond_f);(case hc=>exact rfl))
|((with_reducible apply EvO.spd_t);(case hp=>exact fao))
|((with_reducible apply EvO.spn_f);(case hp=>exact fao))
|(with_reducible first|apply EvO.nilT|apply EvO.nilB)
|((with_reducible apply EvO.u0);(case hx=>first
|((with_reducible apply OpR.lk);(case hm|hk|ho=>exact rfl);(case hf=>exact hf);(case hz=>exact rfl))
|((with_reducible apply OpR.bsl (es:=[[.bool a1],[.bool true],[.bool a3],[.bool a4],[.bool a5]]));(case hw=>exact rfl);(case ho=>kernel_rfl);(case h=>kernel_rfl))
|((with_reducible apply OpR.mpk);(case hs=>exact fun _=>rfl);(case hm|ha|hk|hd|hy|hb=>exact rfl);(case hf=>exact hf);(case hks=>exact hks);(case hvs=>exact hvs);(case hfr=>exact leq))
|(exact oqF kn)
|(exact oqF kw)
|(exact oqF kc)
|(exact oqF kr)
|(exact oqF ks)
|(exact oqF k5)
|(exact oqF kwd)
|exact opq))
|fail)
       exact ⟨q+1,rfl,frT (by rw [hs1,hs0,hst,hx,hP];rfl),⟨by omega,hok hfi⟩,by omega⟩
      ·
       rw [hbad hfi]
       repeat' (first
|(with_reducible first|apply EvK.seq|apply EvK.block)
|((with_reducible apply EvK.text);(try case hm=>exact rfl))
|((with_reducible apply EvK.drawn);(case hm=>exact rfl))
|(with_reducible first|apply EvK.skip|apply EvK.ret|apply thenK_n|apply thenK_r|apply blockK_r)
|((with_reducible apply EvK.cond_t);(case hc=>exact rfl))
|((with_reducible apply EvK.cond_f);(case hc=>exact rfl))
|((with_reducible apply EvO.spd_t);(case hp=>exact fao))
|((with_reducible apply EvO.spn_t);(case hp=>exact fao))
|(with_reducible apply EvO.nilT)
|((with_reducible apply EvO.u0);(case hx=>first
|((with_reducible apply OpR.lk);(case hm|hk|ho=>exact rfl);(case hf=>exact hf);(case hz=>exact rfl))
|((with_reducible apply OpR.bsl (es:=[[.bool a1],[.bool true],[.bool a3],[.bool a4],[.bool a5]]));(case hw=>exact rfl);(case ho=>kernel_rfl);(case h=>kernel_rfl))
|((with_reducible apply OpR.mpk);(case hs=>exact fun _=>rfl);(case hm|ha|hk|hd|hy|hb=>exact rfl);(case hf=>exact hf);(case hks=>exact hks);(case hvs=>exact hvs);(case hfr=>exact leq))
|(exact oqF kn)
|(exact oqF kw)
|(exact oqF kc)
|(exact oqF kr)
|(exact oqF ks)
|(exact oqF k5)
|exact opq))
|fail)
       exact ⟨.inr rfl,rfl⟩
     | false=>
      rw [hst] at ks hbad hok
      obtain ⟨x,hx⟩:∃ x,cntOf S false (L.take q)=x:=⟨_,rfl⟩
      rw [hx] at hb0' hbad hok ⊢
      by_cases hfi:t.first=x
      ·
       repeat' (first
|(with_reducible first|apply EvK.seq|apply EvK.block)
|((with_reducible apply EvK.text);(try case hm=>exact rfl))
|((with_reducible apply EvK.drawn);(case hm=>exact rfl))
|(with_reducible first|apply EvK.skip|apply thenK_n)
|((with_reducible apply EvK.cond_t);(case hc=>exact rfl))
|((with_reducible apply EvK.cond_f);(case hc=>exact rfl))
|((with_reducible apply EvO.spd_t);(case hp=>exact fao))
|((with_reducible apply EvO.spn_f);(case hp=>exact fao))
|(with_reducible first|apply EvO.nilT|apply EvO.nilB)
|((with_reducible apply EvO.u0);(case hx=>first
|((with_reducible apply OpR.lk);(case hm|hk|ho=>exact rfl);(case hf=>exact hf);(case hz=>exact rfl))
|((with_reducible apply OpR.bsl (es:=[[.bool a1],[.bool true],[.bool a3],[.bool a4],[.bool a5]]));(case hw=>exact rfl);(case ho=>kernel_rfl);(case h=>kernel_rfl))
|((with_reducible apply OpR.mpk);(case hs=>exact fun _=>rfl);(case hm|ha|hk|hd|hy|hb=>exact rfl);(case hf=>exact hf);(case hks=>exact hks);(case hvs=>exact hvs);(case hfr=>exact leq))
|(exact oqF kn)
|(exact oqF kw)
|(exact oqF kc)
|(exact oqF kr)
|(exact oqF ks)
|(exact oqF k5)
|(exact oqF kwd)
|exact opq))
|fail)
       exact ⟨q+1,rfl,frT (by rw [hs1,hs0,hst,hx,hP];rfl),⟨by omega,hok hfi⟩,by omega⟩
      ·
       rw [hbad hfi]
       repeat' (first
|(with_reducible first|apply EvK.seq|apply EvK.block)
|((with_reducible apply EvK.text);(try case hm=>exact rfl))
|((with_reducible apply EvK.drawn);(case hm=>exact rfl))
|(with_reducible first|apply EvK.skip|apply EvK.ret|apply thenK_n|apply thenK_r|apply blockK_r)
|((with_reducible apply EvK.cond_t);(case hc=>exact rfl))
|((with_reducible apply EvK.cond_f);(case hc=>exact rfl))
|((with_reducible apply EvO.spd_t);(case hp=>exact fao))
|((with_reducible apply EvO.spn_t);(case hp=>exact fao))
|(with_reducible apply EvO.nilT)
|((with_reducible apply EvO.u0);(case hx=>first
|((with_reducible apply OpR.lk);(case hm|hk|ho=>exact rfl);(case hf=>exact hf);(case hz=>exact rfl))
|((with_reducible apply OpR.bsl (es:=[[.bool a1],[.bool true],[.bool a3],[.bool a4],[.bool a5]]));(case hw=>exact rfl);(case ho=>kernel_rfl);(case h=>kernel_rfl))
|((with_reducible apply OpR.mpk);(case hs=>exact fun _=>rfl);(case hm|ha|hk|hd|hy|hb=>exact rfl);(case hf=>exact hf);(case hks=>exact hks);(case hvs=>exact hvs);(case hfr=>exact leq))
|(exact oqF kn)
|(exact oqF kw)
|(exact oqF kc)
|(exact oqF kr)
|(exact oqF ks)
|(exact oqF k5)
|exact opq))
|fail)
       exact ⟨.inr rfl,rfl⟩
  ·
   rw [allG_end h3,Bool.true_and]
   unfold lyF
   rw [List.take_of_length_le h3]
   exact drv
end Go.Proofs.YtcpgmmlaimkojaaGreatDoor
namespace Go.Proofs.YtcpgmmlaimkojaaGreatDoor
open Go.RowKit
set_option maxRecDepth 100000
set_option maxHeartbeats 16000000
theorem idxgraph_c {C:List Tb} {p:Tb→Bool} {c1 c2:AV} (hl:C.length≤140737488351232) (hp:∀ x∈C,Cl cfg 144 [.t (.agg (tbC x)),.t c1,.t c2] [] (.t (.bool (p x))) []):Cl cfg 160 [.t (.arr (tbE C)),.t (.fn (.func 144) 0 [c1,c2])] [] (.t (.int .i64 (idxS p C 0))) []:=by
 have hlE:=tbE_len C
 refine Cl.of_body rfl Tryz.func160 rfl rfl rfl ?_
 refine drvR ?_
 refine EvL.ind (fun q:Nat=>[(8,.t (.int .i64 (q:Int)))]) (fun q=>q≤C.length∧idxS p C 0=idxS p (C.drop q) q) (fun q=>C.length - q) 0 rfl (by simp) (fun q hq=>?_)
 obtain ⟨h1,h2⟩:=hq
 rw [h2]
 rcases Nat.lt_or_ge q C.length with h3|h3
 ·
  obtain ⟨e,he⟩:=get_of_lt h3
  have hc:=tbE_get he
  have hpn:=hp e (List.mem_of_getElem? he)
  rw [drop_at he,idxS_cons]
  obtain ⟨b,hb⟩:∃ b,p e=b:=⟨_,rfl⟩
  rw [hb] at hpn ⊢
  cases b with
  | true=>
   exact drv
  | false=>
   exact drv
 ·
  rw [List.drop_of_length_le h3]
  exact drv
theorem congraph_c {C:List Tb} {p:Tb→Bool} {c1 c2:AV} (hl:C.length≤140737488351232) (hp:∀ x∈C,Cl cfg 144 [.t (.agg (tbC x)),.t c1,.t c2] [] (.t (.bool (p x))) []):Cl cfg 143 [.t (.arr (tbE C)),.t (.fn (.func 144) 0 [c1,c2])] [] (.t (.bool (C.any p))) []:=by
 have hi:=idxgraph_c hl hp
 rw [← idxS_any p C 0 (by omega)]
 refine Cl.of_body rfl Tryz.func143 rfl rfl rfl ?_
 obtain ⟨n,hn⟩:∃ n,idxS p C 0=n:=⟨_,rfl⟩
 rw [hn] at hi ⊢
 exact drv
theorem idxeffr_c {C:List Rw} {p:Rw→Bool} {c1:AV} (hl:C.length≤140737488351232) (hp:∀ x∈C,Cl cfg 149 [.t (.agg (rwC x)),.t c1] [] (.t (.bool (p x))) []):Cl cfg 163 [.t (.arr (rwE C)),.t (.fn (.func 149) 0 [c1])] [] (.t (.int .i64 (idxS p C 0))) []:=by
 have hlE:=rwE_len C
 refine Cl.of_body rfl Tryz.func163 rfl rfl rfl ?_
 refine drvR ?_
 refine EvL.ind (fun q:Nat=>[(8,.t (.int .i64 (q:Int)))]) (fun q=>q≤C.length∧idxS p C 0=idxS p (C.drop q) q) (fun q=>C.length - q) 0 rfl (by simp) (fun q hq=>?_)
 obtain ⟨h1,h2⟩:=hq
 rw [h2]
 rcases Nat.lt_or_ge q C.length with h3|h3
 ·
  obtain ⟨e,he⟩:=get_of_lt h3
  have hc:=rwE_get he
  have hpn:=hp e (List.mem_of_getElem? he)
  rw [drop_at he,idxS_cons]
  obtain ⟨b,hb⟩:∃ b,p e=b:=⟨_,rfl⟩
  rw [hb] at hpn ⊢
  cases b with
  | true=>
   exact drv
  | false=>
   exact drv
 ·
  rw [List.drop_of_length_le h3]
  exact drv
theorem coneffr_c {C:List Rw} {p:Rw→Bool} {c1:AV} (hl:C.length≤140737488351232) (hp:∀ x∈C,Cl cfg 149 [.t (.agg (rwC x)),.t c1] [] (.t (.bool (p x))) []):Cl cfg 148 [.t (.arr (rwE C)),.t (.fn (.func 149) 0 [c1])] [] (.t (.bool (C.any p))) []:=by
 have hi:=idxeffr_c hl hp
 rw [← idxS_any p C 0 (by omega)]
 refine Cl.of_body rfl Tryz.func148 rfl rfl rfl ?_
 obtain ⟨n,hn⟩:∃ n,idxS p C 0=n:=⟨_,rfl⟩
 rw [hn] at hi ⊢
 exact drv
theorem idxopsi_c {C:List Int} {p:Int→Bool} {c1:AV} (hl:C.length≤140737488351232) (hp:∀ x∈C,Cl cfg 119 [.t (.int .i64 x),.t c1] [] (.t (.bool (p x))) []):Cl cfg 79 [.t (intsA C),.t (.fn (.func 119) 0 [c1])] [] (.t (.int .i64 (idxS p C 0))) []:=by
 have hlE:=intsE_len C
 refine Cl.of_body rfl Tryz.func79 rfl rfl rfl ?_
 refine drvR ?_
 refine EvL.ind (fun q:Nat=>[(8,.t (.int .i64 (q:Int)))]) (fun q=>q≤C.length∧idxS p C 0=idxS p (C.drop q) q) (fun q=>C.length - q) 0 rfl (by simp) (fun q hq=>?_)
 obtain ⟨h1,h2⟩:=hq
 rw [h2]
 rcases Nat.lt_or_ge q C.length with h3|h3
 ·
  obtain ⟨e,he⟩:=get_of_lt h3
  have hc:=intsE_get he
  have hpn:=hp e (List.mem_of_getElem? he)
  rw [drop_at he,idxS_cons]
  obtain ⟨b,hb⟩:∃ b,p e=b:=⟨_,rfl⟩
  rw [hb] at hpn ⊢
  cases b with
  | true=>
   exact drv
  | false=>
   exact drv
 ·
  rw [List.drop_of_length_le h3]
  exact drv
theorem conopsi_c {C:List Int} {p:Int→Bool} {c1:AV} (hl:C.length≤140737488351232) (hp:∀ x∈C,Cl cfg 119 [.t (.int .i64 x),.t c1] [] (.t (.bool (p x))) []):Cl cfg 32 [.t (intsA C),.t (.fn (.func 119) 0 [c1])] [] (.t (.bool (C.any p))) []:=by
 have hi:=idxopsi_c hl hp
 rw [← idxS_any p C 0 (by omega)]
 refine Cl.of_body rfl Tryz.func32 rfl rfl rfl ?_
 obtain ⟨n,hn⟩:∃ n,idxS p C 0=n:=⟨_,rfl⟩
 rw [hn] at hi ⊢
 exact drv
end Go.Proofs.YtcpgmmlaimkojaaGreatDoor
namespace Go.Proofs.YtcpgmmlaimkojaaGreatDoor
open Go.RowKit
set_option maxRecDepth 100000
set_option maxHeartbeats 16000000
theorem idxmemb_c {C:List Mem} {p:Mem→Bool} {c1 c2:AV} (hl:C.length≤140737488351232) (hp:∀ x∈C,Cl cfg 94 [.t (.agg (mbC x)),.t c1,.t c2] [] (.t (.bool (p x))) []):Cl cfg 95 [.t (.arr (mbE C)),.t (.fn (.func 94) 0 [c1,c2])] [] (.t (.int .i64 (idxS p C 0))) []:=by
 have hlE:=mbE_len C
 refine Cl.of_body rfl Tryz.func95 rfl rfl rfl ?_
 refine drvR ?_
 refine EvL.ind (fun q:Nat=>[(8,.t (.int .i64 (q:Int)))]) (fun q=>q≤C.length∧idxS p C 0=idxS p (C.drop q) q) (fun q=>C.length - q) 0 rfl (by simp) (fun q hq=>?_)
 obtain ⟨h1,h2⟩:=hq
 rw [h2]
 rcases Nat.lt_or_ge q C.length with h3|h3
 ·
  obtain ⟨e,he⟩:=get_of_lt h3
  have hc:=mbE_get he
  have hpn:=hp e (List.mem_of_getElem? he)
  rw [drop_at he,idxS_cons]
  obtain ⟨b,hb⟩:∃ b,p e=b:=⟨_,rfl⟩
  rw [hb] at hpn ⊢
  cases b with
  | true=>
   exact drv
  | false=>
   exact drv
 ·
  rw [List.drop_of_length_le h3]
  exact drv
theorem conmemb_c {C:List Mem} {p:Mem→Bool} {c1 c2:AV} (hl:C.length≤140737488351232) (hp:∀ x∈C,Cl cfg 94 [.t (.agg (mbC x)),.t c1,.t c2] [] (.t (.bool (p x))) []):Cl cfg 55 [.t (.arr (mbE C)),.t (.fn (.func 94) 0 [c1,c2])] [] (.t (.bool (C.any p))) []:=by
 have hi:=idxmemb_c hl hp
 rw [← idxS_any p C 0 (by omega)]
 refine Cl.of_body rfl Tryz.func55 rfl rfl rfl ?_
 obtain ⟨n,hn⟩:∃ n,idxS p C 0=n:=⟨_,rfl⟩
 rw [hn] at hi ⊢
 exact drv
theorem idxplcd_c {C:List Mem} {p:Mem→Bool} {c1:AV} (hl:C.length≤140737488351232) (hp:∀ x∈C,Cl cfg 102 [.t (.agg (mbC x)),.t c1] [] (.t (.bool (p x))) []):Cl cfg 95 [.t (.arr (mbE C)),.t (.fn (.func 102) 0 [c1])] [] (.t (.int .i64 (idxS p C 0))) []:=by
 have hlE:=mbE_len C
 refine Cl.of_body rfl Tryz.func95 rfl rfl rfl ?_
 refine drvR ?_
 refine EvL.ind (fun q:Nat=>[(8,.t (.int .i64 (q:Int)))]) (fun q=>q≤C.length∧idxS p C 0=idxS p (C.drop q) q) (fun q=>C.length - q) 0 rfl (by simp) (fun q hq=>?_)
 obtain ⟨h1,h2⟩:=hq
 rw [h2]
 rcases Nat.lt_or_ge q C.length with h3|h3
 ·
  obtain ⟨e,he⟩:=get_of_lt h3
  have hc:=mbE_get he
  have hpn:=hp e (List.mem_of_getElem? he)
  rw [drop_at he,idxS_cons]
  obtain ⟨b,hb⟩:∃ b,p e=b:=⟨_,rfl⟩
  rw [hb] at hpn ⊢
  cases b with
  | true=>
   exact drv
  | false=>
   exact drv
 ·
  rw [List.drop_of_length_le h3]
  exact drv
theorem conplcd_c {C:List Mem} {p:Mem→Bool} {c1:AV} (hl:C.length≤140737488351232) (hp:∀ x∈C,Cl cfg 102 [.t (.agg (mbC x)),.t c1] [] (.t (.bool (p x))) []):Cl cfg 55 [.t (.arr (mbE C)),.t (.fn (.func 102) 0 [c1])] [] (.t (.bool (C.any p))) []:=by
 have hi:=idxplcd_c hl hp
 rw [← idxS_any p C 0 (by omega)]
 refine Cl.of_body rfl Tryz.func55 rfl rfl rfl ?_
 obtain ⟨n,hn⟩:∃ n,idxS p C 0=n:=⟨_,rfl⟩
 rw [hn] at hi ⊢
 exact drv
theorem idxval5_c {C:List Int} {p:Int→Bool} {c1 c2 c3:AV} (hl:C.length≤140737488351232) (hp:∀ x∈C,Cl cfg 54 [.t (.int .i64 x),.t c1,.t c2,.t c3] [] (.t (.bool (p x))) []):Cl cfg 79 [.t (intsA C),.t (.fn (.func 54) 0 [c1,c2,c3])] [] (.t (.int .i64 (idxS p C 0))) []:=by
 have hlE:=intsE_len C
 refine Cl.of_body rfl Tryz.func79 rfl rfl rfl ?_
 refine drvR ?_
 refine EvL.ind (fun q:Nat=>[(8,.t (.int .i64 (q:Int)))]) (fun q=>q≤C.length∧idxS p C 0=idxS p (C.drop q) q) (fun q=>C.length - q) 0 rfl (by simp) (fun q hq=>?_)
 obtain ⟨h1,h2⟩:=hq
 rw [h2]
 rcases Nat.lt_or_ge q C.length with h3|h3
 ·
  obtain ⟨e,he⟩:=get_of_lt h3
  have hc:=intsE_get he
  have hpn:=hp e (List.mem_of_getElem? he)
  rw [drop_at he,idxS_cons]
  obtain ⟨b,hb⟩:∃ b,p e=b:=⟨_,rfl⟩
  rw [hb] at hpn ⊢
  cases b with
  | true=>
   exact drv
  | false=>
   exact drv
 ·
  rw [List.drop_of_length_le h3]
  exact drv
theorem conval5_c {C:List Int} {p:Int→Bool} {c1 c2 c3:AV} (hl:C.length≤140737488351232) (hp:∀ x∈C,Cl cfg 54 [.t (.int .i64 x),.t c1,.t c2,.t c3] [] (.t (.bool (p x))) []):Cl cfg 32 [.t (intsA C),.t (.fn (.func 54) 0 [c1,c2,c3])] [] (.t (.bool (C.any p))) []:=by
 have hi:=idxval5_c hl hp
 rw [← idxS_any p C 0 (by omega)]
 refine Cl.of_body rfl Tryz.func32 rfl rfl rfl ?_
 obtain ⟨n,hn⟩:∃ n,idxS p C 0=n:=⟨_,rfl⟩
 rw [hn] at hi ⊢
 exact drv
theorem idxval51_c {C:List Mem} {p:Mem→Bool} {c1 c2:AV} (hl:C.length≤140737488351232) (hp:∀ x∈C,Cl cfg 56 [.t (.agg (mbC x)),.t c1,.t c2] [] (.t (.bool (p x))) []):Cl cfg 95 [.t (.arr (mbE C)),.t (.fn (.func 56) 0 [c1,c2])] [] (.t (.int .i64 (idxS p C 0))) []:=by
 have hlE:=mbE_len C
 refine Cl.of_body rfl Tryz.func95 rfl rfl rfl ?_
 refine drvR ?_
 refine EvL.ind (fun q:Nat=>[(8,.t (.int .i64 (q:Int)))]) (fun q=>q≤C.length∧idxS p C 0=idxS p (C.drop q) q) (fun q=>C.length - q) 0 rfl (by simp) (fun q hq=>?_)
 obtain ⟨h1,h2⟩:=hq
 rw [h2]
 rcases Nat.lt_or_ge q C.length with h3|h3
 ·
  obtain ⟨e,he⟩:=get_of_lt h3
  have hc:=mbE_get he
  have hpn:=hp e (List.mem_of_getElem? he)
  rw [drop_at he,idxS_cons]
  obtain ⟨b,hb⟩:∃ b,p e=b:=⟨_,rfl⟩
  rw [hb] at hpn ⊢
  cases b with
  | true=>
   exact drv
  | false=>
   exact drv
 ·
  rw [List.drop_of_length_le h3]
  exact drv
theorem conval51_c {C:List Mem} {p:Mem→Bool} {c1 c2:AV} (hl:C.length≤140737488351232) (hp:∀ x∈C,Cl cfg 56 [.t (.agg (mbC x)),.t c1,.t c2] [] (.t (.bool (p x))) []):Cl cfg 55 [.t (.arr (mbE C)),.t (.fn (.func 56) 0 [c1,c2])] [] (.t (.bool (C.any p))) []:=by
 have hi:=idxval51_c hl hp
 rw [← idxS_any p C 0 (by omega)]
 refine Cl.of_body rfl Tryz.func55 rfl rfl rfl ?_
 obtain ⟨n,hn⟩:∃ n,idxS p C 0=n:=⟨_,rfl⟩
 rw [hn] at hi ⊢
 exact drv
theorem idxfew1_c {C:List Lck} {p:Lck→Bool} (hl:C.length≤140737488351232) (hp:∀ x∈C,Cl cfg 43 [.t (.agg (lkC x))] [] (.t (.bool (p x))) []):Cl cfg 83 [.t (.arr (lkE C)),.t (.fn (.func 43) 0 [])] [] (.t (.int .i64 (idxS p C 0))) []:=by
 have hlE:=lkE_len C
 refine Cl.of_body rfl Tryz.func83 rfl rfl rfl ?_
 refine drvR ?_
 refine EvL.ind (fun q:Nat=>[(8,.t (.int .i64 (q:Int)))]) (fun q=>q≤C.length∧idxS p C 0=idxS p (C.drop q) q) (fun q=>C.length - q) 0 rfl (by simp) (fun q hq=>?_)
 obtain ⟨h1,h2⟩:=hq
 rw [h2]
 rcases Nat.lt_or_ge q C.length with h3|h3
 ·
  obtain ⟨e,he⟩:=get_of_lt h3
  have hc:=lkE_get he
  have hpn:=hp e (List.mem_of_getElem? he)
  rw [drop_at he,idxS_cons]
  obtain ⟨b,hb⟩:∃ b,p e=b:=⟨_,rfl⟩
  rw [hb] at hpn ⊢
  cases b with
  | true=>
   exact drv
  | false=>
   exact drv
 ·
  rw [List.drop_of_length_le h3]
  exact drv
theorem confew1_c {C:List Lck} {p:Lck→Bool} (hl:C.length≤140737488351232) (hp:∀ x∈C,Cl cfg 43 [.t (.agg (lkC x))] [] (.t (.bool (p x))) []):Cl cfg 42 [.t (.arr (lkE C)),.t (.fn (.func 43) 0 [])] [] (.t (.bool (C.any p))) []:=by
 have hi:=idxfew1_c hl hp
 rw [← idxS_any p C 0 (by omega)]
 refine Cl.of_body rfl Tryz.func42 rfl rfl rfl ?_
 obtain ⟨n,hn⟩:∃ n,idxS p C 0=n:=⟨_,rfl⟩
 rw [hn] at hi ⊢
 exact drv
end Go.Proofs.YtcpgmmlaimkojaaGreatDoor
namespace Go.Proofs.YtcpgmmlaimkojaaGreatDoor
open Go.RowKit
set_option maxRecDepth 100000
set_option maxHeartbeats 16000000
theorem ext_of_L {f:Nat} {xs:List AV} {r:SV×Fr} (h0:extT f xs=none) (h:extL f xs=some r):cfg.ext f xs=some r:=by
 show (match extT f xs with|some r=>some r|none=>extL f xs)=_
 rw [h0,h]
theorem mulL (x y:Int) (h:decide (0≤x∧x < 18446744073709551616∧0≤y∧y < 18446744073709551616)=true):extL 142 [.int .u64 x,.int .u64 y]=some (.tup [.t (.int .u64 ((x.toNat * y.toNat / 18446744073709551616:Nat):Int)),.t (.int .u64 ((x.toNat * y.toNat % 18446744073709551616:Nat):Int))],[]):=by
 unfold extL
 simp only [Nat.beq_refl,h,Bool.and_self]
theorem mulV {n:Nat} (h:n≤216):((((1:Int).toNat * ((n:Nat):Int).toNat / 18446744073709551616:Nat):Int)=0)∧((((1:Int).toNat * ((n:Nat):Int).toNat % 18446744073709551616:Nat):Int)=n):=by
 have e0:((n:Nat):Int).toNat=n:=Int.toNat_natCast n
 have e00:(1:Int).toNat=1:=rfl
 rw [e0,e00,Nat.one_mul]
 exact ⟨by rw [Nat.div_eq_of_lt (by omega)];rfl,by rw [Nat.mod_eq_of_lt (by omega)]⟩
theorem mulE {n:Nat} (h:n≤216):decide ((0:Int)≤1∧(1:Int) < 18446744073709551616∧0≤(n:Int)∧(n:Int) < 18446744073709551616)=true:=decide_eq_true (by omega)
theorem mul1_c {n:Nat} (h:n≤216):Cl cfg 142 [.t (.int .u64 1),.t (.int .u64 (n:Int))] [] (.tup [.t (.int .u64 0),.t (.int .u64 (n:Int))]) []:=by
 have k:=mulL 1 (n:Int) (mulE h)
 rw [(mulV h).1,(mulV h).2] at k
 exact Cl.ext (xs:=[.int .u64 1,.int .u64 (n:Int)]) rfl rfl (ext_of_L rfl k)
theorem mkR_eq (fr:Fr) (m n:Int):makeE cfg.P fr 119 (.t (.int .i64 m)) (.t (.int .i64 n))=match decide (0≤m) && decide (m≤n) && Nat.ble (n.toNat * 16) 281474976710656 && Nat.ble n.toNat 140737488351232 with
  | true=>some (.ls fr.length,fr++[.row false false 2 (List.replicate m.toNat [.int .i64 0,.int .i64 0])],[])
  | false=>none:=by kernel_rfl
theorem mkR {fr:Fr} {n:Nat} (h:n≤1000):makeE cfg.P fr 119 (.t (.int .i64 (n:Int))) (.t (.int .i64 (n:Int)))=some (.ls fr.length,fr++[.row false false 2 (List.replicate n [.int .i64 0,.int .i64 0])],[]):=by
 have e:(decide (0≤(n:Int)) && decide ((n:Int)≤n) && Nat.ble ((n:Int).toNat * 16) 281474976710656 && Nat.ble (n:Int).toNat 140737488351232)=true:=by
  rw [Int.toNat_natCast]
  have h1:Nat.ble (n * 16) 281474976710656=true:=by rw [Nat.ble_eq];omega
  have h2:Nat.ble n 140737488351232=true:=by rw [Nat.ble_eq];omega
  rw [h1,h2]
  simp
 rw [mkR_eq,e]
 simp
theorem rwR:rowT cfg.P 119=some (125,2,16):=by kernel_rfl
theorem copy_lv {P:Program} {t T sz by_ r a n:Nat} {fr:Fr} {y:SV} {tch:Bool} {es zs:List (List AV)} (hr:rowT P t=some (T,sz,by_)) (hb:fr[r]?=some (.row false tch sz es)) (hy:slOf fr y=some zs) (hn:newsOk sz zs=true) (hl:a+n≤es.length):copyE P fr t (.lv r sz a n) y=some (.t (.int .i64 ((Nat.min zs.length n:Nat):Int)),fr.set r (.row false tch sz (es.take a++zs.take n++es.drop (a+Nat.min zs.length n))),[]):=by
 unfold copyE
 have h1:Nat.ble (a+n) es.length=true:=by rw [Nat.ble_eq];exact hl
 simp only [hr,hy,hn,Nat.beq_refl]
 unfold copyRow
 simp only [hb,Nat.beq_refl,h1,Bool.and_self]
theorem copy_ls {P:Program} {t T sz by_ r:Nat} {fr:Fr} {y:SV} {tch:Bool} {es zs:List (List AV)} (hr:rowT P t=some (T,sz,by_)) (hb:fr[r]?=some (.row false tch sz es)) (hy:slOf fr y=some zs) (hn:newsOk sz zs=true):copyE P fr t (.ls r) y=some (.t (.int .i64 ((Nat.min zs.length es.length:Nat):Int)),fr.set r (.row false tch sz (es.take 0++zs.take es.length++es.drop (0+Nat.min zs.length es.length))),[]):=by
 unfold copyE
 have h1:Nat.ble (0+es.length) es.length=true:=by rw [Nat.ble_eq];omega
 simp only [hr,hy,hn]
 simp only [hb]
 unfold copyRow
 simp only [hb,Nat.beq_refl,h1,Bool.and_self]
theorem newsRg (l:List (Int×Int)):newsOk 2 (rgE l)=true:=by
 unfold newsOk rgE
 rw [List.all_eq_true]
 intro cs hcs
 obtain ⟨x,_,rfl⟩:=List.mem_map.1 hcs
 rfl
def rpt (x:Int×Int) (N m:Nat):List (List AV):=rgE (List.replicate m x++List.replicate (N - m) (0,0))
theorem rpt_len {x:Int×Int} {N m:Nat} (h:m≤N):(rpt x N m).length=N:=by unfold rpt;rw [rgE_len];simp;omega
theorem rpt_0 {x:Int×Int} {N:Nat}:List.replicate N [AV.int .i64 0,.int .i64 0]=rpt x N 0:=by unfold rpt rgE;simp
theorem rpt_N {x:Int×Int} {N:Nat}:rpt x N N=rgE (List.replicate N x):=by unfold rpt;simp
theorem rpt_take {x:Int×Int} {N m k:Nat} (h:k≤m):(rpt x N m).take k=rgE (List.replicate k x):=by
 unfold rpt rgE
 rw [← List.map_take,List.take_append_of_le_length (by simpa using h),List.take_replicate,Nat.min_eq_left h]
theorem rpt_step {x:Int×Int} {N m k:Nat} (hk:m+k≤N):(rpt x N m).take m++rgE (List.replicate k x)++(rpt x N m).drop (m+k)=rpt x N (m+k):=by
 rw [rpt_take (Nat.le_refl _)]
 unfold rpt rgE
 rw [← List.map_drop,← List.map_append,← List.map_append]
 congr 1
 rw [List.replicate_append_replicate]
 congr 1
 rw [List.drop_append]
 simp
 omega
theorem take_repl {x:Int×Int} {m k:Nat} (h:k≤m):(rgE (List.replicate m x)).take k=rgE (List.replicate k x):=by
 unfold rgE
 rw [← List.map_take,List.take_replicate,Nat.min_eq_left h]
theorem crep_c {x:Int×Int} {N:Nat} (h1:1≤N) (hN:N≤216):Cl cfg 114 [.t (.arr [[.int .i64 x.1,.int .i64 x.2]]),.t (.int .i64 (N:Int))] [] (.ls 0) [.row false false 2 (rgE (List.replicate N x))]:=by
 have hmk:makeE cfg.P [] 119 (.t (.int .i64 (N:Int))) (.t (.int .i64 (N:Int)))=some (.ls 0,[.row false false 2 (rpt x N 0)],[]):=by
  rw [← rpt_0]
  exact mkR (fr:=[]) (by omega)
 have km:=mul1_c hN
 rw [← rpt_N (x:=x)]
 have hcp:copyE cfg.P [.row false false 2 (rpt x N 0)] 119 (.ls 0) (.t (.arr [[.int .i64 x.1,.int .i64 x.2]]))=some (.t (.int .i64 ((1:Nat):Int)),[.row false false 2 (rpt x N 1)],[]):=by
  have e1:slOf [.row false false 2 (rpt x N 0)] (.t (.arr [[.int .i64 x.1,.int .i64 x.2]]))=some (rgE (List.replicate 1 x)):=rfl
  rw [copy_ls rwR rfl e1 (newsRg _),rpt_len (Nat.zero_le _)]
  have e2:(rgE (List.replicate 1 x)).length=1:=rfl
  have e3:Nat.min 1 N=1:=Nat.min_eq_left h1
  have e4:(rgE (List.replicate 1 x)).take N=rgE (List.replicate 1 x):=List.take_of_length_le (by rw [e2];exact h1)
  have e5:=rpt_step (x:=x) (N:=N) (m:=0) (k:=1) (by omega)
  rw [e2,e3,e4,e5]
  rfl
 refine Cl.of_body rfl Tryz.func114 rfl rfl rfl ?_
 repeat' (first
|(with_reducible first|apply EvK.seq|apply EvK.block)
|((with_reducible apply EvK.text);(try case hm=>exact rfl))
|(with_reducible first|apply EvK.skip|apply thenK_n)
|((with_reducible apply EvK.cond_f);(case hc=>exact rfl))
|((with_reducible apply EvO.spd_f);(case hp=>exact fao))
|((with_reducible apply EvO.spd_yf);(case hp=>exact fao))
|(with_reducible apply EvO.nilT)
|((with_reducible apply EvO.gt0);(case hW=>exact rfl);(case hx=>exact opq))
|((with_reducible apply EvO.u0);(case hx=>first
|((with_reducible apply OpR.cvu);(case hx|hs|hd=>exact rfl);(case h=>omega))
|((with_reducible apply OpR.cvi);(case hx|hs|hd=>exact rfl);(case h=>omega))
|((with_reducible apply OpR.mks);(case hs=>exact fun _=>rfl);(case hl|hc=>exact rfl);(case hm=>exact hmk);(case hf=>exact leq))
|((with_reducible apply OpR.cpy);(case hs=>exact fun _=>rfl);(case ha|ht|hx|hy=>exact rfl);(case hm=>exact hcp);(case hf=>exact leq))
|(exact oqF km)
|exact opq))
|fail)
 apply EvK.loopV
 case ho=>exact rfl
 case hp=>exact rfl
 case hl=>exact rfl
 case hs=>exact slt
 refine EvL.indF (fun m:Nat=>[(8,.t (.int .i64 (m:Int)))]) (fun m=>[.row false false 2 (rpt x N m)]) (fun m=>1≤m∧m≤N) (fun m=>N - m) 1 rfl rfl ⟨by omega,h1⟩ (fun m hm=>?_)
 obtain ⟨g1,g2⟩:=hm
 have hln:=rpt_len (x:=x) g2
 have hln2:(List.replicate m x++List.replicate (N - m) ((0,0):Int×Int)).length=N:=by simp;omega
 rcases Nat.lt_or_ge m N with g3|g3
 ·
  obtain ⟨k,hk⟩:∃ k,Nat.min m (N - m)=k:=⟨_,rfl⟩
  have hk1:k≤m∧k≤N - m∧1≤k:=by
   rw [← hk]
   have h1:=Nat.min_def (n:=m) (m:=N - m)
   have h2:Nat.min m (N - m)=min m (N - m):=rfl
   rw [h2]
   omega
  have v1:viewS 0 2 0 (rpt x N m).length (rpt x N m).length (some (.t (.int .i64 (m:Int)))) none=some (.lv 0 2 m (N - m)):=by rw [hln];exact view_lo (by omega) g3
  have v2:viewS 0 2 0 (rpt x N m).length (rpt x N m).length none (some (.t (.int .i64 (m:Int))))=some (.lv 0 2 0 m):=by rw [hln];exact view_hi g3
  have hcq:copyE cfg.P [.row false false 2 (rpt x N m)] 119 (.lv 0 2 m (N - m)) (.lv 0 2 0 m)=some (.t (.int .i64 (k:Int)),[.row false false 2 (rpt x N (m+k))],[]):=by
   have e1:slOf [.row false false 2 (rpt x N m)] (.lv 0 2 0 m)=some (rgE (List.replicate m x)):=by
    show lvOf [.row false false 2 (rpt x N m)] 0 2 0 m=_
    have hb:Nat.ble (0+m) (rpt x N m).length=true:=by rw [Nat.ble_eq,hln];omega
    unfold lvOf
    simp only [List.getElem?_cons_zero,Nat.beq_refl,hb,Bool.and_self,List.drop_zero,rpt_take (Nat.le_refl m)]
   rw [copy_lv rwR rfl e1 (newsRg _) (by rw [hln];omega)]
   have e2:(rgE (List.replicate m x)).length=m:=by rw [rgE_len];simp
   have e4:(rgE (List.replicate m x)).take (N - m)=rgE (List.replicate k x):=by
    rcases Nat.le_total m (N - m) with h|h
    ·have:k=m:=by rw [← hk];exact Nat.min_eq_left h
     rw [this]
     exact List.take_of_length_le (by rw [e2];exact h)
    ·have:k=N - m:=by rw [← hk];exact Nat.min_eq_right h
     rw [this]
     exact take_repl h
   have e5:=rpt_step (x:=x) (N:=N) (m:=m) (k:=k) (by omega)
   rw [e2,hk,e4,e5]
   rfl
  repeat' (first
|(with_reducible first|apply EvK.seq|apply EvK.block)
|((with_reducible apply EvK.text);(try case hm=>exact rfl))
|((with_reducible apply EvK.drawnF);(case hm=>exact rfl))
|(with_reducible first|apply EvK.skip|apply thenK_n)
|((with_reducible apply EvK.cond_t);(case hc=>exact rfl))
|((with_reducible apply EvO.spd_t);(case hp=>exact fao))
|(with_reducible first|apply EvO.nilT|apply EvOF.nilB)
|((with_reducible apply EvOF.u);(case hfl=>kernel_rfl);(case hx=>first
|((with_reducible apply OpR.slv);(case he=>first|(with_reducible exact el0)|(with_reducible exact el1)|(with_reducible exact el2)|(with_reducible exact el3)|(with_reducible exact el4)|(with_reducible exact el5)|(with_reducible exact el6)|(with_reducible exact el7)|exact rfl);(case hx|hl|hh|hb=>exact rfl);(case hv=>exact v1))
|((with_reducible apply OpR.slv);(case he=>first|(with_reducible exact el0)|(with_reducible exact el1)|(with_reducible exact el2)|(with_reducible exact el3)|(with_reducible exact el4)|(with_reducible exact el5)|(with_reducible exact el6)|(with_reducible exact el7)|exact rfl);(case hx|hl|hh|hb=>exact rfl);(case hv=>exact v2))
|((with_reducible apply OpR.cpy);(case hs=>exact fun _=>rfl);(case ha|ht|hx|hy=>exact rfl);(case hm=>exact hcq);(case hf=>exact leq))
|exact opq))
|((with_reducible apply EvO.u0);(case hx=>exact opq))
|fail)
  exact ⟨m+k,by rw [Int.natCast_add];rfl,rfl,⟨by omega,by omega⟩,by omega⟩
 ·
  obtain rfl:m=N:=by omega
  exact drv
theorem num_prod3 {S C:List Int} (hs:soundB S=true) (h3:C.all (colOk S)=true) (h1:C.length≤3):numberS S C=prodC S C:=num_prodC hs (by unfold colmB;rw [h3,decide_eq_true h1];rfl)
theorem strict_eq {k:Int} {s:Bool} (h:strictK k≠s):strictK k=!s:=by
 cases s <;> cases hk:strictK k <;> simp_all
theorem crngs_c {S:List Int} {L:List Tb} (s:Bool) (hv:layB S L=true):Cl cfg 86 [.t (intsA S),.t (.arr (tbE L)),.t (.bool s)] [] (.ls 0) [.row false false 2 (rgE (rngs S L s))]:=by
 have hlS:=intsE_len S
 have hlL:=tbE_len L
 have hfew:=lay_few hv
 have hsd:=lay_sound hv
 have kv:=clay_c (S:=S) (L:=L) (by omega) (by omega) (fun t ht=>by
  obtain ⟨k,hk⟩:=List.mem_iff_getElem?.1 ht
  have:=(lay_cols hv hk).1
  omega)
 have hr:rngs S L s=L.flatMap (rngsT S s):=by unfold rngs;rw [hv];rfl
 rw [hv] at kv
 rw [hr]
 refine Cl.of_body rfl Tryz.func86 rfl rfl rfl ?_
 refine drvR ?_
 refine EvL.indF (fun x:Nat×Bool=>[(7,.ls 0),(16,.t (.int .i64 (x.1:Int)))]) (fun x=>[.row false x.2 2 (rgE ((L.take x.1).flatMap (rngsT S s)))]) (fun x=>x.1≤L.length) (fun x=>L.length - x.1) (0,false) rfl rfl (by simp) (fun x hq=>?_)
 obtain ⟨q,tch⟩:=x
 dsimp only at hq ⊢
 rcases Nat.lt_or_ge q L.length with h3|h3
 ·
  obtain ⟨t,ht⟩:=get_of_lt h3
  have hc:=tbE_get ht
  obtain ⟨c1,c2,c3⟩:=lay_cols hv ht
  have ks:=cstrict_c t
  have hbP:=prodC_bnd hsd c3 c1
  have kw:=cwidth_c (S:=S) (C:=t.cols) (by omega) hsd c3 c1
  have hle:=rngsT_le S s (L.take q)
  have hql:(L.take q).length≤12:=by simp;omega
  obtain ⟨P,hP⟩:∃ P,(prodC S t.cols).toNat=P:=⟨_,rfl⟩
  have hP':prodC S t.cols=(P:Int):=by omega
  rw [hP'] at kw hbP
  have kr:=crep_c (x:=(t.lo,t.hi)) (N:=P) (by omega) (by omega)
  by_cases hs:strictK t.kind=s
  ·
   have hsn:rgE ((L.take q).flatMap (rngsT S s))++rgE (List.replicate P (t.lo,t.hi))=rgE ((L.take (q+1)).flatMap (rngsT S s)):=by
    rw [rgE_app,flat_snoc ht]
    congr 2
    unfold rngsT
    rw [if_pos hs,num_prod3 hsd c3 c1,hP]
   have hlX:lenOk ((rgE ((L.take q).flatMap (rngsT S s))).length+(rgE (List.replicate P (t.lo,t.hi))).length) 16=true:=by
    rw [rgE_len,rgE_len,List.length_replicate]
    exact lenG (by omega) (by decide)
   have hN:=newsRg (List.replicate P (t.lo,t.hi))
   rw [hs] at ks
   cases s
   ·
    repeat' (first
|(with_reducible first|apply EvK.seq|apply EvK.block)
|((with_reducible apply EvK.text);(try case hm=>exact rfl))
|((with_reducible apply EvK.drawn);(case hm=>exact rfl))
|(with_reducible first|apply EvK.skip|apply thenK_n)
|((with_reducible apply EvK.cond_t);(case hc=>exact rfl))
|((with_reducible apply EvO.spd_t);(case hp=>exact fao))
|(with_reducible first|apply EvO.nilT|apply EvO.nilB)
|((with_reducible apply EvO.u);(case hx=>((with_reducible apply OpR.apr);(case hs=>exact fun _=>rfl);(case ha|ht=>exact rfl);(case hr=>first|(with_reducible exact rw0)|(with_reducible exact rw1)|(with_reducible exact rw2)|(with_reducible exact rw3)|(with_reducible exact rw4)|exact rfl);(case hx|hy|hn|hb=>exact rfl);(case hok=>exact hN);(case hlen=>exact hlX);(case hv=>exact hsn);(case hk=>exact kfr);(case hf=>exact leq))))
|((with_reducible apply EvO.u0);(case hx=>first
|((with_reducible apply OpR.bsl (es:=[[.int .i64 t.lo,.int .i64 t.hi]]));(case hw=>exact rfl);(case ho=>kernel_rfl);(case h=>kernel_rfl))
|(exact oqF ks)
|(exact oqF kw)
|(exact oqC kr)
|exact opq))
|fail)
    exact ⟨(q+1,true),rfl,rfl,by dsimp only;omega,by dsimp only;omega⟩
   ·
    repeat' (first
|(with_reducible first|apply EvK.seq|apply EvK.block)
|((with_reducible apply EvK.text);(try case hm=>exact rfl))
|((with_reducible apply EvK.drawn);(case hm=>exact rfl))
|(with_reducible first|apply EvK.skip|apply thenK_n)
|((with_reducible apply EvK.cond_t);(case hc=>exact rfl))
|((with_reducible apply EvO.spd_t);(case hp=>exact fao))
|(with_reducible first|apply EvO.nilT|apply EvO.nilB)
|((with_reducible apply EvO.u);(case hx=>((with_reducible apply OpR.apr);(case hs=>exact fun _=>rfl);(case ha|ht=>exact rfl);(case hr=>first|(with_reducible exact rw0)|(with_reducible exact rw1)|(with_reducible exact rw2)|(with_reducible exact rw3)|(with_reducible exact rw4)|exact rfl);(case hx|hy|hn|hb=>exact rfl);(case hok=>exact hN);(case hlen=>exact hlX);(case hv=>exact hsn);(case hk=>exact kfr);(case hf=>exact leq))))
|((with_reducible apply EvO.u0);(case hx=>first
|((with_reducible apply OpR.bsl (es:=[[.int .i64 t.lo,.int .i64 t.hi]]));(case hw=>exact rfl);(case ho=>kernel_rfl);(case h=>kernel_rfl))
|(exact oqF ks)
|(exact oqF kw)
|(exact oqC kr)
|exact opq))
|fail)
    exact ⟨(q+1,true),rfl,rfl,by dsimp only;omega,by dsimp only;omega⟩
  ·
   rw [rngP_no ht hs]
   rw [strict_eq hs] at ks
   cases s
   ·
    refine drvR ?_
    exact ⟨(q+1,tch),rfl,rfl,by dsimp only;omega,by dsimp only;omega⟩
   ·
    refine drvR ?_
    exact ⟨(q+1,tch),rfl,rfl,by dsimp only;omega,by dsimp only;omega⟩
 ·
  rw [List.take_of_length_le h3]
  exact drv
theorem inP_iff {S:List Int} {s:Bool} {c:Int} {t:Tb} (hsd:soundB S=true) (c1:t.cols.length≤3) (c3:t.cols.all (colOk S)=true):inT S s c t=true↔strictK t.kind=s∧0≤c∧0≤c - t.first∧c - t.first < prodC S t.cols:=by
 rw [inT_iff,num_prod3 hsd c3 c1]
theorem ctuple_c {S:List Int} {L:List Tb} {s:Bool} {c:Int} (hv:layB S L=true) (hc:c≤9223372036854775807):match tabAt S L s c with
  | some (i,t)=>Cl cfg 162 [.t (intsA S),.t (.arr (tbE L)),.t (.bool s),.t (.int .i64 c)] [] (.tup [.t (.int .i64 (i:Int)),.ls 0,.t (.bool true)]) [.row false false 1 (intsE (nthS S t.cols (c - t.first)))]
  | none=>Cl cfg 162 [.t (intsA S),.t (.arr (tbE L)),.t (.bool s),.t (.int .i64 c)] [] (.tup [.t (.int .i64 0),.nil,.t (.bool false)]) []:=by
 have hlS:=intsE_len S
 have hlL:=tbE_len L
 have hfew:=lay_few hv
 have hsd:=lay_sound hv
 have kv:=clay_c (S:=S) (L:=L) (by omega) (by omega) (fun t ht=>by
  obtain ⟨k,hk⟩:=List.mem_iff_getElem?.1 ht
  have:=(lay_cols hv hk).1
  omega)
 have hr:tabAt S L s c=findG (inT S s c) 0 L:=by unfold tabAt;rw [hv];rfl
 rw [hv] at kv
 rw [hr]
 by_cases h0:c < 0
 ·
  have hn:findG (inT S s c) 0 L=none:=by
   cases hf:findG (inT S s c) 0 L with
   | none=>rfl
   | some r=>
    have:=find_p hf
    rw [inT_iff] at this
    omega
  rw [hn]
  refine Cl.of_body rfl Tryz.func162 rfl rfl rfl ?_
  exact drv
 ·
  cases hf:findG (inT S s c) 0 L with
  | none=>
   show Cl cfg 162 _ [] _ []
   refine Cl.of_body rfl Tryz.func162 rfl rfl rfl ?_
   refine drvR ?_
   refine EvL.ind (fun q:Nat=>[(27,.t (.int .i64 (q:Int)))]) (fun q=>q≤L.length∧findG (inT S s c) q (L.drop q)=none) (fun q=>L.length - q) 0 rfl ⟨by omega,hf⟩ (fun q hq=>?_)
   obtain ⟨h1,h2⟩:=hq
   rcases Nat.lt_or_ge q L.length with h3|h3
   ·
    obtain ⟨t,ht⟩:=get_of_lt h3
    have htc:=tbE_get ht
    obtain ⟨c1,c2,c3⟩:=lay_cols hv ht
    have kst:=cstrict_c t
    have kw:=cwidth_c (S:=S) (C:=t.cols) (by omega) hsd c3 c1
    obtain ⟨f0,f1⟩:=lay_first hv ht
    rw [findG_hit ht] at h2
    cases hi:inT S s c t with
    | true=>rw [hi] at h2;cases h2
    | false=>
     rw [hi] at h2
     have hni:¬ (strictK t.kind=s∧0≤c∧0≤c - t.first∧c - t.first < prodC S t.cols):=fun h=>by rw [(inP_iff hsd c1 c3).2 h] at hi;cases hi
     obtain ⟨P,hP⟩:∃ P,prodC S t.cols=P:=⟨_,rfl⟩
     rw [hP] at kw hni
     by_cases hs:strictK t.kind=s
     ·
      rw [hs] at kst
      cases s <;>
      repeat' (first
|(with_reducible first|apply EvK.seq|apply EvK.block)
|((with_reducible apply EvK.text);(try case hm=>exact rfl))
|(with_reducible first|apply EvK.skip|apply EvK.exit|apply thenK_n|apply thenK_e|apply blockK_h)
|((with_reducible apply EvK.cond_t);(case hc=>exact rfl))
|((with_reducible apply EvK.cond_f);(case hc=>exact rfl))
|((with_reducible apply EvO.spd_t);(case hp=>exact fao))
|((with_reducible apply EvO.spd_y) <;> intro hq)
|(with_reducible apply EvO.nilT)
|((with_reducible apply EvO.gf);(case hW=>exact rfl))
|((with_reducible apply EvO.gt0);(case hW=>exact rfl);(case hx=>first
|(exact oqF kw)
|exact opq))
|((with_reducible apply EvO.u0);(case hx=>first
|(exact oqF kst)
|exact opq))
|fail)
      all_goals first
       | exact ⟨q+1,rfl,rfl,⟨by omega,h2⟩,by omega⟩
       | (exfalso;apply hni;exact ⟨hs,by omega,by omega,by omega⟩)
     ·
      rw [strict_eq hs] at kst
      cases s <;>
      repeat' (first
|(with_reducible first|apply EvK.seq|apply EvK.block)
|((with_reducible apply EvK.text);(try case hm=>exact rfl))
|(with_reducible first|apply EvK.skip|apply EvK.exit|apply thenK_n|apply thenK_e|apply blockK_h)
|((with_reducible apply EvK.cond_t);(case hc=>exact rfl))
|((with_reducible apply EvO.spd_t);(case hp=>exact fao))
|(with_reducible apply EvO.nilT)
|((with_reducible apply EvO.gf);(case hW=>exact rfl))
|((with_reducible apply EvO.u0);(case hx=>first
|(exact oqF kst)
|exact opq))
|fail)
      all_goals exact ⟨q+1,rfl,rfl,⟨by omega,h2⟩,by omega⟩
   ·
    exact drv
  | some it=>
   obtain ⟨i,u⟩:=it
   show Cl cfg 162 _ [] _ _
   refine Cl.of_body rfl Tryz.func162 rfl rfl rfl ?_
   refine drvR ?_
   refine EvL.ind (fun q:Nat=>[(27,.t (.int .i64 (q:Int)))]) (fun q=>q≤L.length∧findG (inT S s c) q (L.drop q)=some (i,u)) (fun q=>L.length - q) 0 rfl ⟨by omega,hf⟩ (fun q hq=>?_)
   obtain ⟨h1,h2⟩:=hq
   rcases Nat.lt_or_ge q L.length with h3|h3
   ·
    obtain ⟨t,ht⟩:=get_of_lt h3
    have htc:=tbE_get ht
    obtain ⟨c1,c2,c3⟩:=lay_cols hv ht
    have kst:=cstrict_c t
    have kw:=cwidth_c (S:=S) (C:=t.cols) (by omega) hsd c3 c1
    have hbP:=prodC_bnd hsd c3 c1
    obtain ⟨f0,f1⟩:=lay_first hv ht
    rw [findG_hit ht] at h2
    cases hi:inT S s c t with
    | true=>
     rw [hi,if_pos rfl] at h2
     obtain ⟨rfl,rfl⟩:q=i∧t=u:=by cases h2;exact ⟨rfl,rfl⟩
     have hyes:=(inP_iff hsd c1 c3).1 hi
     obtain ⟨P,hP⟩:∃ P,prodC S t.cols=P:=⟨_,rfl⟩
     rw [hP] at kw hyes hbP
     obtain ⟨y1,y2,y3,y4⟩:=hyes
     rw [y1] at kst
     have hmk:makeE cfg.P [.box false 127 ((tbC t).map .t)] 22 (.t (.int .i64 (t.cols.length:Int))) (.t (.int .i64 (t.cols.length:Int)))=some (.ls 1,[.box false 127 ((tbC t).map .t),.row false false 1 (intsE (List.replicate t.cols.length 0))],[]):=mkI (fr:=[.box false 127 ((tbC t).map .t)]) (n:=t.cols.length) (by omega)
     have hrep2:(List.replicate t.cols.length (0:Int)).length=t.cols.length:=List.length_replicate
     have hlC:=intsE_len t.cols
     cases s
     ·
      repeat' (first
|(with_reducible first|apply EvK.seq|apply EvK.block)
|((with_reducible apply EvK.text);(try case hm=>exact rfl))
|(with_reducible first|apply EvK.skip|apply thenK_n)
|((with_reducible apply EvK.cond_t);(case hc=>exact rfl))
|((with_reducible apply EvK.cond_f);(case hc=>exact rfl))
|((with_reducible apply EvO.spd_t);(case hp=>exact fao))
|((with_reducible apply EvO.spd_yf);(case hp=>exact fao))
|(with_reducible apply EvO.nilT)
|((with_reducible apply EvO.gt0);(case hW=>exact rfl);(case hx=>first
|(exact oqF kw)
|exact opq))
|((with_reducible apply EvO.u0);(case hx=>first
|((with_reducible apply OpR.mks);(case hs=>exact fun _=>rfl);(case hl|hc=>exact rfl);(case hm=>exact hmk);(case hf=>exact leq))
|(exact oqF kst)
|exact opq))
|fail)
      apply EvK.loopV
      case ho=>exact rfl
      case hp=>exact rfl
      case hl=>exact rfl
      case hs=>exact slt
      refine EvL.indF (fun x:Nat×Int×List Int=>[(13,.t (.int .i64 x.2.1)),(15,.t (.int .i64 ((x.1:Int) - 1)))]) (fun x=>[.box false 127 ((tbC t).map .t),.row false false 1 (intsE x.2.2)]) (fun x=>x.1≤t.cols.length∧0≤x.2.1∧x.2.1≤1000∧x.2.2.length=t.cols.length∧nthG S t.cols x.1 x.2.1 x.2.2=nthS S t.cols (c - t.first)) (fun x=>x.1) (t.cols.length,c - t.first,List.replicate t.cols.length 0) (by simp only [hrep2];rfl) rfl ⟨by dsimp only;omega,by dsimp only;omega,by dsimp only;omega,by simp,rfl⟩ (fun x hx=>?_)
      obtain ⟨j,k,r⟩:=x
      dsimp only at hx ⊢
      obtain ⟨n1,n2,n3,n4,n5⟩:=hx
      cases j with
      | zero=>
       rw [← n5]
       exact drv
      | succ j=>
       obtain ⟨c',hcj⟩:=get_of_lt (xs:=t.cols) (k:=j) (by omega)
       have hcc:=intsE_get hcj
       have hco:=List.all_eq_true.1 c3 c' (List.mem_of_getElem? hcj)
       obtain ⟨d1,d2⟩:=col_at hsd hco
       simp only [colOk,Bool.and_eq_true,decide_eq_true_eq] at hco
       obtain ⟨d3,d4⟩:=hco
       obtain ⟨s',hsk⟩:=get_of_lt (xs:=S) (k:=c'.toNat) (by omega)
       have hsc:=intsE_get hsk
       rw [getD_get hsk] at d1 d2
       obtain ⟨v,hvv⟩:=get_of_lt (xs:=r) (k:=j) (by omega)
       have hvc:=intsE_get hvv
       have hlr:=intsE_len r
       have ej:(((j+1:Nat):Int) - 1)=(j:Int):=by omega
       rw [ej]
       have hk':(intsE r)[((j:Nat):Int).toNat]?=some [.int .i64 v]:=by rw [Int.toNat_natCast];exact hvc
       have hst:(intsE r).set ((j:Nat):Int).toNat [.int .i64 (k.tmod s')]=intsE (r.set j (k.tmod s')):=by rw [Int.toNat_natCast];simp [intsE,List.map_set]
       have hd:0≤k.tdiv s'∧k.tdiv s'≤k:=by
        rw [Int.tdiv_eq_ediv_of_nonneg n2]
        exact ⟨Int.ediv_nonneg n2 (by omega),Int.ediv_le_self _ n2⟩
       have hnx:nthG S t.cols (j+1) k r=nthG S t.cols j (k.tdiv s') (r.set j (k.tmod s')):=by
        have e1:t.cols.getD j 0=c':=getD_get hcj
        have e2:S.getD c'.toNat 0=s':=getD_get hsk
        rw [nthG,e1,e2]
       obtain ⟨kd,hkd⟩:∃ kd,k.tdiv s'=kd:=⟨_,rfl⟩
       rw [hkd] at hd hnx
       repeat' (first
|(with_reducible first|apply EvK.seq|apply EvK.block)
|((with_reducible apply EvK.text);(try case hm=>exact rfl))
|((with_reducible apply EvK.drawnF);(case hm=>exact rfl))
|(with_reducible first|apply EvK.skip|apply thenK_n)
|((with_reducible apply EvK.cond_t);(case hc=>exact rfl))
|((with_reducible apply EvO.spd_t);(case hp=>exact fao))
|(with_reducible first|apply EvO.nilT|apply EvOF.nilB)
|((with_reducible apply EvOF.u);(case hfl=>kernel_rfl);(case hx=>first
|((with_reducible apply OpR.remv);(case hx|hy=>exact rfl);(case hn=>omega);(case h=>exact rfl))
|((with_reducible apply OpR.quov);(case hx|hy=>exact rfl);(case hn=>omega);(case h=>exact hkd);(case hb=>omega))
|((with_reducible apply OpR.sti);(case hs=>exact fun _=>rfl);(case ha|hy|ht|hone=>exact rfl);(case hn=>kernel_rfl);(case hb=>exact rfl);(case hk=>exact hk');(case hj=>exact rfl);(case hv=>exact hst);(case hf=>exact leq))
|exact opq))
|((with_reducible apply EvO.u0);(case hx=>exact opq))
|fail)
       exact ⟨(j,kd,r.set j (k.tmod s')),rfl,rfl,⟨by dsimp only;omega,by dsimp only;omega,by dsimp only;omega,by simp [n4],by dsimp only;rw [← hnx];exact n5⟩,by dsimp only;omega⟩
     ·
      repeat' (first
|(with_reducible first|apply EvK.seq|apply EvK.block)
|((with_reducible apply EvK.text);(try case hm=>exact rfl))
|(with_reducible first|apply EvK.skip|apply thenK_n)
|((with_reducible apply EvK.cond_t);(case hc=>exact rfl))
|((with_reducible apply EvK.cond_f);(case hc=>exact rfl))
|((with_reducible apply EvO.spd_t);(case hp=>exact fao))
|((with_reducible apply EvO.spd_yf);(case hp=>exact fao))
|(with_reducible apply EvO.nilT)
|((with_reducible apply EvO.gt0);(case hW=>exact rfl);(case hx=>first
|(exact oqF kw)
|exact opq))
|((with_reducible apply EvO.u0);(case hx=>first
|((with_reducible apply OpR.mks);(case hs=>exact fun _=>rfl);(case hl|hc=>exact rfl);(case hm=>exact hmk);(case hf=>exact leq))
|(exact oqF kst)
|exact opq))
|fail)
      apply EvK.loopV
      case ho=>exact rfl
      case hp=>exact rfl
      case hl=>exact rfl
      case hs=>exact slt
      refine EvL.indF (fun x:Nat×Int×List Int=>[(13,.t (.int .i64 x.2.1)),(15,.t (.int .i64 ((x.1:Int) - 1)))]) (fun x=>[.box false 127 ((tbC t).map .t),.row false false 1 (intsE x.2.2)]) (fun x=>x.1≤t.cols.length∧0≤x.2.1∧x.2.1≤1000∧x.2.2.length=t.cols.length∧nthG S t.cols x.1 x.2.1 x.2.2=nthS S t.cols (c - t.first)) (fun x=>x.1) (t.cols.length,c - t.first,List.replicate t.cols.length 0) (by simp only [hrep2];rfl) rfl ⟨by dsimp only;omega,by dsimp only;omega,by dsimp only;omega,by simp,rfl⟩ (fun x hx=>?_)
      obtain ⟨j,k,r⟩:=x
      dsimp only at hx ⊢
      obtain ⟨n1,n2,n3,n4,n5⟩:=hx
      cases j with
      | zero=>
       rw [← n5]
       exact drv
      | succ j=>
       obtain ⟨c',hcj⟩:=get_of_lt (xs:=t.cols) (k:=j) (by omega)
       have hcc:=intsE_get hcj
       have hco:=List.all_eq_true.1 c3 c' (List.mem_of_getElem? hcj)
       obtain ⟨d1,d2⟩:=col_at hsd hco
       simp only [colOk,Bool.and_eq_true,decide_eq_true_eq] at hco
       obtain ⟨d3,d4⟩:=hco
       obtain ⟨s',hsk⟩:=get_of_lt (xs:=S) (k:=c'.toNat) (by omega)
       have hsc:=intsE_get hsk
       rw [getD_get hsk] at d1 d2
       obtain ⟨v,hvv⟩:=get_of_lt (xs:=r) (k:=j) (by omega)
       have hvc:=intsE_get hvv
       have hlr:=intsE_len r
       have ej:(((j+1:Nat):Int) - 1)=(j:Int):=by omega
       rw [ej]
       have hk':(intsE r)[((j:Nat):Int).toNat]?=some [.int .i64 v]:=by rw [Int.toNat_natCast];exact hvc
       have hst:(intsE r).set ((j:Nat):Int).toNat [.int .i64 (k.tmod s')]=intsE (r.set j (k.tmod s')):=by rw [Int.toNat_natCast];simp [intsE,List.map_set]
       have hd:0≤k.tdiv s'∧k.tdiv s'≤k:=by
        rw [Int.tdiv_eq_ediv_of_nonneg n2]
        exact ⟨Int.ediv_nonneg n2 (by omega),Int.ediv_le_self _ n2⟩
       have hnx:nthG S t.cols (j+1) k r=nthG S t.cols j (k.tdiv s') (r.set j (k.tmod s')):=by
        have e1:t.cols.getD j 0=c':=getD_get hcj
        have e2:S.getD c'.toNat 0=s':=getD_get hsk
        rw [nthG,e1,e2]
       obtain ⟨kd,hkd⟩:∃ kd,k.tdiv s'=kd:=⟨_,rfl⟩
       rw [hkd] at hd hnx
       repeat' (first
|(with_reducible first|apply EvK.seq|apply EvK.block)
|((with_reducible apply EvK.text);(try case hm=>exact rfl))
|((with_reducible apply EvK.drawnF);(case hm=>exact rfl))
|(with_reducible first|apply EvK.skip|apply thenK_n)
|((with_reducible apply EvK.cond_t);(case hc=>exact rfl))
|((with_reducible apply EvO.spd_t);(case hp=>exact fao))
|(with_reducible first|apply EvO.nilT|apply EvOF.nilB)
|((with_reducible apply EvOF.u);(case hfl=>kernel_rfl);(case hx=>first
|((with_reducible apply OpR.remv);(case hx|hy=>exact rfl);(case hn=>omega);(case h=>exact rfl))
|((with_reducible apply OpR.quov);(case hx|hy=>exact rfl);(case hn=>omega);(case h=>exact hkd);(case hb=>omega))
|((with_reducible apply OpR.sti);(case hs=>exact fun _=>rfl);(case ha|hy|ht|hone=>exact rfl);(case hn=>kernel_rfl);(case hb=>exact rfl);(case hk=>exact hk');(case hj=>exact rfl);(case hv=>exact hst);(case hf=>exact leq))
|exact opq))
|((with_reducible apply EvO.u0);(case hx=>exact opq))
|fail)
       exact ⟨(j,kd,r.set j (k.tmod s')),rfl,rfl,⟨by dsimp only;omega,by dsimp only;omega,by dsimp only;omega,by simp [n4],by dsimp only;rw [← hnx];exact n5⟩,by dsimp only;omega⟩
    | false=>
     rw [hi] at h2
     have hni:¬ (strictK t.kind=s∧0≤c∧0≤c - t.first∧c - t.first < prodC S t.cols):=fun h=>by rw [(inP_iff hsd c1 c3).2 h] at hi;cases hi
     obtain ⟨P,hP⟩:∃ P,prodC S t.cols=P:=⟨_,rfl⟩
     rw [hP] at kw hni
     by_cases hs:strictK t.kind=s
     ·
      rw [hs] at kst
      cases s <;>
      repeat' (first
|(with_reducible first|apply EvK.seq|apply EvK.block)
|((with_reducible apply EvK.text);(try case hm=>exact rfl))
|(with_reducible first|apply EvK.skip|apply EvK.exit|apply thenK_n|apply thenK_e|apply blockK_h)
|((with_reducible apply EvK.cond_t);(case hc=>exact rfl))
|((with_reducible apply EvK.cond_f);(case hc=>exact rfl))
|((with_reducible apply EvO.spd_t);(case hp=>exact fao))
|((with_reducible apply EvO.spd_y) <;> intro hq)
|(with_reducible apply EvO.nilT)
|((with_reducible apply EvO.gf);(case hW=>exact rfl))
|((with_reducible apply EvO.gt0);(case hW=>exact rfl);(case hx=>first
|(exact oqF kw)
|exact opq))
|((with_reducible apply EvO.u0);(case hx=>first
|(exact oqF kst)
|exact opq))
|fail)
      all_goals first
       | exact ⟨q+1,rfl,rfl,⟨by omega,h2⟩,by omega⟩
       | (exfalso;apply hni;exact ⟨hs,by omega,by omega,by omega⟩)
     ·
      rw [strict_eq hs] at kst
      cases s <;>
      repeat' (first
|(with_reducible first|apply EvK.seq|apply EvK.block)
|((with_reducible apply EvK.text);(try case hm=>exact rfl))
|(with_reducible first|apply EvK.skip|apply EvK.exit|apply thenK_n|apply thenK_e|apply blockK_h)
|((with_reducible apply EvK.cond_t);(case hc=>exact rfl))
|((with_reducible apply EvO.spd_t);(case hp=>exact fao))
|(with_reducible apply EvO.nilT)
|((with_reducible apply EvO.gf);(case hW=>exact rfl))
|((with_reducible apply EvO.u0);(case hx=>first
|(exact oqF kst)
|exact opq))
|fail)
      all_goals exact ⟨q+1,rfl,rfl,⟨by omega,h2⟩,by omega⟩
   ·
    rw [findG_end h3] at h2
    cases h2
end Go.Proofs.YtcpgmmlaimkojaaGreatDoor
