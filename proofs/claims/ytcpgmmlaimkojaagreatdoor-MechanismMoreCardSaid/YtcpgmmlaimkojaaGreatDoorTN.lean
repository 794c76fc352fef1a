/- The reference's scanning of a word,as contracts. No condition. -/
import Derived.Test.YtcpgmmlaimkojaaGreatDoorTL
import Derived.Test.YtcpgmmlaimkojaaGreatDoorTM
import Derived.Test.YtcpgmmlaimkojaaGreatDoorTS
import Derived.Test.YtcpgmmlaimkojaaGreatDoorTD
set_option linter.unusedSimpArgs false
set_option linter.unusedVariables false
set_option linter.unusedSectionVars false
namespace Go.Proofs.YtcpgmmlaimkojaaGreatDoor
open Go.RowKit
set_option maxRecDepth 100000
set_option maxHeartbeats 16000000
def tkC (t:Tok):List AV:=[.int .i64 t.kind,.int .i64 (t.frm:Int),.int .i64 (t.at_:Int),.int .i64 (t.end_:Int)]
def tkE (l:List Tok):List (List AV):=l.map tkC
theorem rscan_c {l:List UInt8} (hl:l.length≤4096):Cl cfg 164 [.t (.str (bs l))] [] (.tup [.ls 0,.t (.int .i64 0)]) [.row false false 4 (tkE (scanA l))]:=by
 have hsz:(bs l).size=l.length:=bs_size l
 refine Cl.of_body rfl Tryz.func164 rfl rfl rfl ?_
 refine drvR ?_
 refine EvL.indF (fun s:Nat×Bool×List Tok=>[(4,.ls 0),(5,.t (.int .i64 (s.1:Int)))]) (fun s=>[.row false s.2.1 4 (tkE s.2.2)]) (fun s=>s.1≤l.length∧s.2.2.length≤s.1∧s.2.2++scanF l s.1=scanA l) (fun s=>l.length - s.1) (0,false,[]) rfl rfl ⟨by simp,by simp,rfl⟩ (fun s hq=>?_)
 obtain ⟨q,tch,T⟩:=s
 dsimp only at hq ⊢
 obtain ⟨h1,h2,h3⟩:=hq
 have ks:=rskip_c (q0:=q) (l:=l) (by omega) h1
 have ha:=atL_le h1
 have hT:(tkE T).length=T.length:=by simp [tkE]
 rcases Nat.lt_or_ge (atL l q) l.length with h4|h4
 ·
  have kt:=rtoken_c (l:=l) (by omega) h4
  have hg:=endL_gt h4
  have hE:atL l q+(tokL (l.drop (atL l q))).2=endL l q:=rfl
  rw [hE] at kt
  have hsn:tkE T++[[.int .i64 (tokL (l.drop (atL l q))).1,.int .i64 (q:Int),.int .i64 (atL l q:Int),.int .i64 (endL l q:Int)]]=tkE (T++[⟨(tokL (l.drop (atL l q))).1,q,atL l q,endL l q⟩]):=by simp [tkE,tkC]
  have hst:=scanF_s h1 h4
  repeat' (first
|(with_reducible first|apply EvK.seq|apply EvK.block)
|((with_reducible apply EvK.text);(try case hm=>exact rfl))
|(with_reducible first|apply EvK.skip|apply thenK_n)
|((with_reducible apply EvK.cond_t);(case hc=>exact rfl))
|((with_reducible apply EvO.spd_t);(case hp=>exact fao))
|(with_reducible first|apply EvO.nilT|apply EvO.nilB)
|((with_reducible apply EvO.u);(case hx=>((with_reducible apply OpR.apr);(case hs=>exact fun _=>rfl);(case ha|ht=>exact rfl);(case hr=>first|(with_reducible exact rw0)|(with_reducible exact rw1)|(with_reducible exact rw2)|(with_reducible exact rw3)|(with_reducible exact rw4)|exact rfl);(case hx|hy|hn|hb|hok=>exact rfl);(case hlen=>exact lenG (by rw [hT];simp;omega) (by decide));(case hv=>exact hsn);(case hk=>exact kfr);(case hf=>exact leq))))
|((with_reducible apply EvO.u0);(case hx=>first
|(exact oqF ks)
|(exact oqF kt)
|exact opq))
|fail)
  refine ⟨(endL l q,true,T++[⟨(tokL (l.drop (atL l q))).1,q,atL l q,endL l q⟩]),rfl,rfl,⟨hg.2,by simp;omega,?_⟩,by dsimp only;omega⟩
  dsimp only
  rw [List.append_assoc,List.singleton_append,← hst]
  exact h3
 ·
  have hst:=scanF_e h1 (by omega)
  have hsn:tkE T++[[.int .i64 0,.int .i64 (q:Int),.int .i64 (l.length:Int),.int .i64 (l.length:Int)]]=tkE (scanA l):=by rw [← h3,hst];simp [tkE,tkC]
  repeat' (first
|(with_reducible apply EvK.seq)
|((with_reducible apply EvK.text);(try case hm=>exact rfl))
|(with_reducible first|apply EvK.exit|apply EvK.ret|apply thenK_n|apply thenK_e|apply blockK_h)
|((with_reducible apply EvK.cond_f);(case hc=>exact rfl))
|((with_reducible apply EvO.spd_f);(case hp=>exact fao))
|(with_reducible apply EvO.nilT)
|((with_reducible apply EvO.u);(case hx=>((with_reducible apply OpR.apr);(case hs=>exact fun _=>rfl);(case ha|ht=>exact rfl);(case hr=>first|(with_reducible exact rw0)|(with_reducible exact rw1)|(with_reducible exact rw2)|(with_reducible exact rw3)|(with_reducible exact rw4)|exact rfl);(case hx|hy|hn|hb|hok=>exact rfl);(case hlen=>exact lenG (by rw [hT];simp;omega) (by decide));(case hv=>exact hsn);(case hk=>exact kfr);(case hf=>exact leq))))
|((with_reducible apply EvO.u0);(case hx=>first
|(exact oqF ks)
|exact opq))
|fail)
  exact ⟨.inr rfl,rfl⟩
theorem rscan_big {l:List UInt8} (hl:4096 < l.length):Cl cfg 164 [.t (.str (bs l))] [] (.tup [.nil,.t (.int .i64 8)]) []:=by
 have hsz:(bs l).size=l.length:=bs_size l
 refine Cl.of_body rfl Tryz.func164 rfl rfl rfl ?_
 exact drv
def kindT (n:Nat):List Tok→Int
 | [t,_]=>if t.at_=0∧t.end_=n then t.kind else 0
 | _=>0
theorem kindL_eq (l:List UInt8):kindL l=if 4096 < l.length then 0 else kindT l.length (scanA l):=by
 unfold kindL
 split
 ·rfl
 ·unfold kindT
  split <;> simp_all
theorem kindT_ne {n:Nat} {T:List Tok} (h:T.length≠2):kindT n T=0:=
 match T,h with
 | [],_=>rfl
 | [_],_=>rfl
 | _::_::_::_,_=>rfl
theorem rkind_c {l:List UInt8}:Cl cfg 151 [.t (.str (bs l))] [] (.t (.int .i64 (kindL l))) []:=by
 have hsz:(bs l).size=l.length:=bs_size l
 refine Cl.of_body rfl Tryz.func151 rfl rfl rfl ?_
 by_cases h4:4096 < l.length
 ·
  have ks:=rscan_big h4
  have hk:kindL l=0:=by rw [kindL_eq,if_pos h4]
  rw [hk]
  exact drv
 ·
  have ks:=rscan_c (l:=l) (by omega)
  rw [kindL_eq,if_neg h4]
  obtain ⟨T,hT⟩:∃ T,scanA l=T:=⟨_,rfl⟩
  rw [hT] at ks ⊢
  by_cases hl2:T.length=2
  ·
   obtain ⟨a,b,rfl⟩:∃ a b,T=[a,b]:=match T,hl2 with|[a,b],_=>⟨a,b,rfl⟩
   have hl2':(([a,b]:List Tok).length:Int)=2:=rfl
   have hc0:(tkE [a,b])[0]?=some [.int .i64 a.kind,.int .i64 (a.frm:Int),.int .i64 (a.at_:Int),.int .i64 (a.end_:Int)]:=rfl
   have hkt:kindT l.length [a,b]=if a.at_=0∧a.end_=l.length then a.kind else 0:=rfl
   rw [hkt]
   by_cases h1:a.at_=0
   ·
    by_cases h2:a.end_=l.length
    ·
     rw [if_pos ⟨h1,h2⟩]
     exact drv
    ·
     rw [if_neg (fun h=>h2 h.2)]
     exact drv
   ·
    rw [if_neg (fun h=>h1 h.1)]
    exact drv
  ·
   have h0:kindT l.length T=0:=kindT_ne hl2
   rw [h0]
   have hl3:¬ ((T.length:Int)=2):=by omega
   exact drv
theorem rname_c (s:ByteArray):Cl cfg 127 [.t (.str s)] [] (.t (.bool (nmB s))) []:=by
 rw [← bso s]
 generalize s.data.toList=l
 have hsz:(bs l).size=l.length:=bs_size l
 have hn:nmB (bs l)=nameL l:=by unfold nmB;simp [bs]
 rw [hn]
 have kk:=rkind_c (l:=l)
 refine Cl.of_body rfl Tryz.func127 rfl rfl rfl ?_
 repeat' (first
|(with_reducible apply EvK.seq)
|((with_reducible apply EvK.text);(try case hm=>exact rfl))
|(with_reducible apply EvK.ret)
|((with_reducible apply EvO.spd) <;> intro hq)
|((with_reducible apply EvO.spd_y) <;> intro hq)
|(with_reducible apply EvO.nilT)
|((with_reducible apply EvO.gf);(case hW=>exact rfl))
|((with_reducible apply EvO.gt0);(case hW=>exact rfl);(case hx=>exact opq))
|((with_reducible apply EvO.u0);(case hx=>first
|(exact oqF kk)
|exact opq))
|fail)
 all_goals (refine fin_b (.inr rfl) rfl ?_;unfold nameL;simp_all <;> omega)
end Go.Proofs.YtcpgmmlaimkojaaGreatDoor
namespace Go.Proofs.YtcpgmmlaimkojaaGreatDoor
open Go.RowKit
set_option maxRecDepth 100000
set_option maxHeartbeats 16000000
theorem rsound_c {S:List Int} (hl:S.length≤140737488351232):Cl cfg 125 [.t (intsA S)] [] (.t (.bool (soundB S))) []:=by
 refine Cl.of_body rfl Tryz.func125 rfl rfl rfl ?_
 refine drvR ?_
 refine EvL.ind (fun q:Nat=>[(3,.t (.int .i64 (q:Int)))]) (fun q=>q≤S.length∧soundB S=soundB (S.drop q)) (fun q=>S.length - q) 0 rfl ⟨by omega,rfl⟩ (fun q hq=>?_)
 obtain ⟨h1,h2⟩:=hq
 rcases Nat.lt_or_ge q S.length with h3|h3
 ·
  obtain ⟨n,hn⟩:=get_of_lt h3
  have hc:=intsE_get hn
  have ha:soundB (S.drop q)=((decide (1≤n) && decide (n≤6)) && soundB (S.drop (q+1))):=all_hit _ hn
  rw [h2,ha]
  repeat' (first
|(with_reducible first|apply EvK.seq|apply EvK.block)
|((with_reducible apply EvK.text);(try case hm=>exact rfl))
|(with_reducible first|apply EvK.skip|apply EvK.ret|apply thenK_n|apply thenK_r|apply blockK_n|apply blockK_r)
|((with_reducible apply EvK.cond_t);(case hc=>exact rfl))
|((with_reducible apply EvK.cond_f);(case hc=>exact rfl))
|((with_reducible apply EvO.spd_t);(case hp=>exact fao))
|((with_reducible apply EvO.spd) <;> intro hq)
|((with_reducible apply EvO.spd_y) <;> intro hq)
|(with_reducible apply EvO.nilT)
|((with_reducible apply EvO.gf);(case hW=>exact rfl))
|((with_reducible apply EvO.gt0);(case hW=>exact rfl);(case hx=>exact opq))
|((with_reducible apply EvO.u0);(case hx=>exact opq))
|fail)
  all_goals first
   | exact fin_b (.inr rfl) rfl (by rw [decide_eq_false (show ¬ 1≤n by omega)];rfl)
   | exact fin_b (.inr rfl) rfl (by rw [decide_eq_false (show ¬ n≤6 by omega)];simp)
   | exact ⟨q+1,rfl,rfl,⟨by omega,by rw [decide_eq_true (show 1≤n by omega),decide_eq_true (show n≤6 by omega)];rfl⟩,by omega⟩
 ·
  have he:soundB (S.drop q)=true:=alle _ h3
  rw [h2,he]
  exact drv
theorem rstrict_c (k:Int):Cl cfg 128 [.t (.int .i64 k)] [] (.t (.bool (strictK k))) []:=by
 refine Cl.of_body rfl Tryz.func128 rfl rfl rfl ?_
 repeat' (first
|(with_reducible apply EvK.seq)
|((with_reducible apply EvK.text);(try case hm=>exact rfl))
|(with_reducible apply EvK.ret)
|((with_reducible apply EvO.spd) <;> intro hq)
|((with_reducible apply EvO.spd_y) <;> intro hq)
|(with_reducible apply EvO.nilT)
|((with_reducible apply EvO.gf);(case hW=>exact rfl))
|((with_reducible apply EvO.gt0);(case hW=>exact rfl);(case hx=>exact opq))
|((with_reducible apply EvO.u0);(case hx=>exact opq))
|fail)
 all_goals (refine fin_b (.inr rfl) rfl ?_;unfold strictK;first|(simp_all;done)|(simp_all;omega))
theorem rnumber_c {S C:List Int} (hS:S.length≤140737488351232) (hC:C.length≤140737488351232):Cl cfg 126 [.t (intsA S),.t (intsA C)] [] (.t (.int .i64 (numberS S C))) []:=by
 refine Cl.of_body rfl Tryz.func126 rfl rfl rfl ?_
 have kS:=rsound_c hS
 have hlS:=intsE_len S
 by_cases h3:C.length≤3
 ·
  cases hs:soundB S with
  | false=>
   rw [hs] at kS
   have hn:numberS S C=0:=by unfold numberS;rw [if_neg (by simp [hs])]
   rw [hn]
   exact drv
  | true=>
   rw [hs] at kS
   have hn:numberS S C=if C.all (colOk S)=true then prodC S C else 0:=by unfold numberS;simp [hs,h3]
   rw [hn]
   refine drvR ?_
   refine EvL.ind (fun q:Nat=>[(5,.t (.int .i64 (prodC S (C.take q)))),(6,.t (.int .i64 (q:Int)))]) (fun q=>q≤C.length∧(C.take q).all (colOk S)=true) (fun q=>C.length - q) 0 rfl ⟨by omega,by simp⟩ (fun q hq=>?_)
   obtain ⟨h1,h2⟩:=hq
   rcases Nat.lt_or_ge q C.length with h4|h4
   ·
    obtain ⟨c,hc'⟩:=get_of_lt h4
    have hc:=intsE_get hc'
    cases ho:colOk S c with
    | true=>
     have hb:=prodC_bnd hs (all_more h2 hc' ho) (by simp;omega)
     have hsn:=prodC_snoc (S:=S) hc'
     rw [hsn] at hb
     have ho':=ho
     simp only [colOk,Bool.and_eq_true,decide_eq_true_eq] at ho'
     obtain ⟨h0,h5⟩:=ho'
     obtain ⟨s,hs'⟩:=get_of_lt (xs:=S) (k:=c.toNat) (by omega)
     have hg:=intsE_get hs'
     rw [getD_get hs'] at hb hsn
     obtain ⟨p,hp⟩:∃ p,prodC S (C.take q)=p:=⟨_,rfl⟩
     rw [hp] at hb hsn ⊢
     refine drvR ?_
     refine ⟨q+1,?_,rfl,⟨by omega,all_more h2 hc' ho⟩,by omega⟩
     rw [hsn];rfl
    | false=>
     have hno:¬ C.all (colOk S)=true:=fun h=>by
      have:=List.all_eq_true.1 h c (List.mem_of_getElem? hc')
      rw [ho] at this;cases this
     rw [if_neg hno]
     have ho':c < 0∨(S.length:Int)≤c:=by
      by_cases h:0≤c
      ·right
       simp only [colOk,decide_eq_true h,Bool.true_and,decide_eq_false_iff_not] at ho
       omega
      ·exact .inl (by omega)
     rcases ho' with ho'|ho'
     ·
      exact drv
     ·
      exact drv
   ·
    have h5:=all_end h2 h4
    rw [if_pos h5,List.take_of_length_le h4]
    exact drv
 ·
  have hn:numberS S C=0:=by unfold numberS;rw [if_neg (by simp [h3])]
  rw [hn]
  exact drv
theorem layBF {S:List Int} {L:List Tb} (h:¬ ((S.length≤4∧soundB S=true)∧L.length≤12)):layB S L=false:=by
 rw [← Bool.not_eq_true]
 intro hl
 apply h
 simp only [layB,Bool.and_eq_true,decide_eq_true_eq] at hl
 exact ⟨⟨hl.1.1,hl.1.2.1⟩,hl.1.2.2⟩
def layR (S:List Int) (L:List Tb) (q:Nat):Bool:=allG (tabOk S L) q (L.drop q) && (decide (cntOf S true L≤128) && decide (cntOf S false L≤64))
theorem layR_0 {S:List Int} {L:List Tb} (h:(S.length≤4∧soundB S=true)∧L.length≤12):layB S L=layR S L 0:=by
 unfold layB layR allI
 simp [h.1.1,h.1.2,h.2]
theorem layR_hit {S:List Int} {L:List Tb} {q:Nat} {t:Tb} (h:L[q]?=some t):layR S L q=(tabOk S L q t && layR S L (q+1)):=by
 unfold layR
 rw [allG_hit h,Bool.and_assoc]
theorem layR_bad {S:List Int} {L:List Tb} {q:Nat} {t:Tb} (h:L[q]?=some t) (hb:¬ tabOk S L q t=true):layR S L q=false:=by
 rw [layR_hit h,Bool.not_eq_true _ |>.mp hb];rfl
theorem layR_ok {S:List Int} {L:List Tb} {q:Nat} {t:Tb} (h:L[q]?=some t) (hb:tabOk S L q t=true):layR S L q=layR S L (q+1):=by
 rw [layR_hit h,hb];rfl
theorem tabOk_iff {S:List Int} {L:List Tb} {q:Nat} {t:Tb}:tabOk S L q t=true↔((L.take q).any fun u=>decide (u.name=t.name))=false∧nmB t.name=true∧(0≤t.kind∧t.kind≤5)∧numberS S t.cols≠0∧((t.lo≤t.hi ∧ -9999≤t.lo∧t.hi≤9999)∧(¬ (t.kind=0∨t.kind=2∨t.kind=3)∨(t.lo=0∧t.hi=1)))∧t.first=cntOf S (strictK t.kind) (L.take q):=by
 unfold tabOk rngOk
 simp only [Bool.and_eq_true,Bool.or_eq_true,Bool.not_eq_true',decide_eq_true_eq,decide_eq_false_iff_not,Bool.or_eq_false_iff,not_or,ne_eq]
theorem rlay_c {S:List Int} {L:List Tb} (hS:S.length≤140737488351232) (hL:L.length≤140737488351232) (hC:∀ t∈L,t.cols.length≤140737488351232):Cl cfg 96 [.t (intsA S),.t (.arr (tbE L))] [] (.t (.bool (layB S L))) []:=by
 refine Cl.of_body rfl Tryz.func96 rfl rfl rfl ?_
 have kS:=rsound_c hS
 have hlS:=intsE_len S
 have hlL:=tbE_len L
 by_cases h0:(S.length≤4∧soundB S=true)∧L.length≤12
 ·
  rw [layR_0 h0]
  obtain ⟨⟨h4,hs⟩,h12⟩:=h0
  rw [hs] at kS
  refine drvR ?_
  refine EvL.ind (fun q:Nat=>[(5,.t (.int .i64 (cntOf S true (L.take q)))),(6,.t (.int .i64 (cntOf S false (L.take q)))),(7,.t (.int .i64 (q:Int)))]) (fun q=>q≤L.length∧layR S L 0=layR S L q) (fun q=>L.length - q) 0 rfl ⟨by omega,rfl⟩ (fun q hq=>?_)
  obtain ⟨h1,h2⟩:=hq
  rw [h2]
  rcases Nat.lt_or_ge q L.length with h3|h3
  ·
   obtain ⟨t,ht⟩:=get_of_lt h3
   have hc:=tbE_get ht
   have kn:=rname_c t.name
   have kN:=rnumber_c (S:=S) (C:=t.cols) hS (hC t (List.mem_of_getElem? ht))
   have kst:=rstrict_c t.kind
   have hbad:=layR_bad (S:=S) ht
   have hok:=layR_ok (S:=S) ht
   rw [tabOk_iff] at hbad hok
   have hs1:=cnt_snoc (S:=S) true ht
   have hs0:=cnt_snoc (S:=S) false ht
   have hb1:=cnt_bnd (S:=S) true (L.take q)
   have hb0:=cnt_bnd (S:=S) false (L.take q)
   have hbN:=numberS_bnd S t.cols
   have hlq:(L.take q).length=q:=by simp;omega
   rw [hlq] at hb1 hb0
   obtain ⟨a,ha⟩:∃ a,cntOf S true (L.take q)=a:=⟨_,rfl⟩
   obtain ⟨b,hb⟩:∃ b,cntOf S false (L.take q)=b:=⟨_,rfl⟩
   obtain ⟨N,hN⟩:∃ N,numberS S t.cols=N:=⟨_,rfl⟩
   rw [ha] at hs1 hb1 ⊢
   rw [hb] at hs0 hb0 ⊢
   rw [hN] at hs1 hs0 hbN kN hbad hok
   refine drvR ?_
   refine EvL.ind (fun k:Nat=>[(9,.t (.int .i64 (k:Int)))]) (fun k=>k≤q∧((L.take q).any fun u=>decide (u.name=t.name))=(((L.take q).drop k).any fun u=>decide (u.name=t.name))) (fun k=>q - k) 0 rfl ⟨by omega,rfl⟩ (fun k hk=>?_)
   obtain ⟨g1,g2⟩:=hk
   rcases Nat.lt_or_ge k q with g3|g3
   ·
    obtain ⟨u,hu⟩:=get_of_lt (xs:=L) (k:=k) (by omega)
    have hcu:=tbE_get hu
    have hu':(L.take q)[k]?=some u:=by rw [List.getElem?_take,if_pos g3,hu]
    have hh:=any_hit (fun u:Tb=>decide (u.name=t.name)) hu'
    by_cases he:u.name=t.name
    ·
     rw [decide_eq_true he,Bool.true_or] at hh
     rw [hbad (fun h=>by rw [g2,hh] at h;cases h.1)]
     exact drv
    ·
     rw [decide_eq_false he,Bool.false_or] at hh
     refine drvR ?_
     exact ⟨k+1,rfl,rfl,⟨by omega,by rw [g2,hh]⟩,by omega⟩
   ·
    have hnone:((L.take q).any fun u=>decide (u.name=t.name))=false:=by rw [g2];exact any_end _ (by omega)
    obtain ⟨nb,hnb⟩:∃ nb,nmB t.name=nb:=⟨_,rfl⟩
    rw [hnb] at kn hbad hok
    cases nb with
    | false=>
     rw [hbad (fun h=>by cases h.2.1)]
     exact drv
    | true=>
     cases hst:strictK t.kind with
     | true=>
      rw [hst,ha] at hbad hok
      rw [hst] at kst
      rw [hst,if_pos rfl] at hs1
      rw [hst,if_neg (by decide)] at hs0
      repeat' (first
|(with_reducible apply EvK.seq)
|((with_reducible apply EvK.text);(try case hm=>exact rfl))
|(with_reducible first|apply EvK.skip|apply EvK.exit|apply EvK.ret|apply thenK_n|apply thenK_e|apply thenK_r|apply blockK_r|apply blockK_h)
|((with_reducible apply EvK.cond_t);(case hc=>exact rfl))
|((with_reducible apply EvK.cond_f);(case hc=>exact rfl))
|((with_reducible apply EvO.spd_f);(case hp=>exact fao))
|((with_reducible apply EvO.spd) <;> intro hq)
|((with_reducible apply EvO.spn) <;> intro hq)
|((with_reducible apply EvO.spd_y) <;> intro hq)
|((with_reducible apply EvO.spn_y) <;> intro hq)
|(with_reducible first|apply EvO.nilT|apply EvO.nilB)
|((with_reducible apply EvO.gf);(case hW=>exact rfl))
|((with_reducible apply EvO.gt0);(case hW=>exact rfl);(case hx=>exact opq))
|((with_reducible apply EvO.u0);(case hx=>first
|(exact oqF kN)
|(exact oqF kn)
|(exact oqF kst)
|exact opq))
|fail)
      all_goals first
       | exact fin_b (.inr rfl) rfl (Eq.symm (hbad (fun h=>by obtain ⟨_,_,_,_,_,_⟩:=h;omega)))
       | (refine ⟨q+1,?_,rfl,⟨by omega,hok ⟨hnone,rfl,by omega,by omega,by omega,by omega⟩⟩,by omega⟩;rw [hs1,hs0];rfl)
     | false=>
      rw [hst,hb] at hbad hok
      rw [hst] at kst
      rw [hst,if_neg (by decide)] at hs1
      rw [hst,if_pos rfl] at hs0
      repeat' (first
|(with_reducible apply EvK.seq)
|((with_reducible apply EvK.text);(try case hm=>exact rfl))
|(with_reducible first|apply EvK.skip|apply EvK.exit|apply EvK.ret|apply thenK_n|apply thenK_e|apply thenK_r|apply blockK_r|apply blockK_h)
|((with_reducible apply EvK.cond_t);(case hc=>exact rfl))
|((with_reducible apply EvK.cond_f);(case hc=>exact rfl))
|((with_reducible apply EvO.spd_f);(case hp=>exact fao))
|((with_reducible apply EvO.spd) <;> intro hq)
|((with_reducible apply EvO.spn) <;> intro hq)
|((with_reducible apply EvO.spd_y) <;> intro hq)
|((with_reducible apply EvO.spn_y) <;> intro hq)
|(with_reducible first|apply EvO.nilT|apply EvO.nilB)
|((with_reducible apply EvO.gf);(case hW=>exact rfl))
|((with_reducible apply EvO.gt0);(case hW=>exact rfl);(case hx=>exact opq))
|((with_reducible apply EvO.u0);(case hx=>first
|(exact oqF kN)
|(exact oqF kn)
|(exact oqF kst)
|exact opq))
|fail)
      all_goals first
       | exact fin_b (.inr rfl) rfl (Eq.symm (hbad (fun h=>by obtain ⟨_,_,_,_,_,_⟩:=h;omega)))
       | (refine ⟨q+1,?_,rfl,⟨by omega,hok ⟨hnone,rfl,by omega,by omega,by omega,by omega⟩⟩,by omega⟩;rw [hs1,hs0];rfl)
  ·
   have he:layR S L q=(decide (cntOf S true L≤128) && decide (cntOf S false L≤64)):=by
    unfold layR;rw [allG_end h3];rfl
   rw [he,List.take_of_length_le h3]
   repeat' (first
|(with_reducible apply EvK.seq)
|((with_reducible apply EvK.text);(try case hm=>exact rfl))
|(with_reducible first|apply EvK.exit|apply EvK.ret|apply thenK_n|apply thenK_e|apply blockK_h)
|((with_reducible apply EvK.cond_f);(case hc=>exact rfl))
|((with_reducible apply EvO.spd_f);(case hp=>exact fao))
|((with_reducible apply EvO.spd) <;> intro hq)
|((with_reducible apply EvO.spd_y) <;> intro hq)
|(with_reducible apply EvO.nilT)
|((with_reducible apply EvO.gf);(case hW=>exact rfl))
|((with_reducible apply EvO.gt0);(case hW=>exact rfl);(case hx=>exact opq))
|((with_reducible apply EvO.u0);(case hx=>exact opq))
|fail)
   all_goals (refine fin_b (.inr rfl) rfl ?_;simp;omega)
 ·
  rw [layBF h0]
  cases hs:soundB S with
  | true=>
   rw [hs] at kS
   have h0':¬ (S.length≤4∧L.length≤12):=fun h=>h0 ⟨⟨h.1,hs⟩,h.2⟩
   repeat' (first
|(with_reducible apply EvK.seq)
|((with_reducible apply EvK.text);(try case hm=>exact rfl))
|(with_reducible first|apply EvK.ret|apply thenK_r)
|((with_reducible apply EvK.cond_t);(case hc=>exact rfl))
|((with_reducible apply EvO.spd) <;> intro hq)
|((with_reducible apply EvO.spd_yt);(case hp=>exact fao))
|(with_reducible apply EvO.nilT)
|((with_reducible apply EvO.gf);(case hW=>exact rfl))
|((with_reducible apply EvO.gt0);(case hW=>exact rfl);(case hx=>first
|(exact oqF kS)
|exact opq))
|((with_reducible apply EvO.u0);(case hx=>exact opq))
|fail)
   all_goals first
    | exact ⟨.inr rfl,rfl⟩
    | (exfalso;omega)
  | false=>
   rw [hs] at kS
   exact drv
end Go.Proofs.YtcpgmmlaimkojaaGreatDoor
namespace Go.Proofs.YtcpgmmlaimkojaaGreatDoor
open Go.RowKit
set_option maxRecDepth 100000
set_option maxHeartbeats 16000000
section
variable {g:Cfg} {d:Option (List Nat)} {env:Env} {fr:Fr} {i:Nat}
theorem OpR.negr {t:TypeId} {x:Operand} {m:Int} (hx:rd env x=.t (.int .i64 m)) (h : -9223372036854775808≤0 - m∧0 - m≤9223372036854775807):OpR g d i env fr (.unOp .neg t x) (.t (.int .i64 (0 - m))) fr []:=.p rfl rfl (by
 unfold evP
 simp only [hx,unS,IntWalk.i64_in _ h])
theorem OpR.subw {xt yt:TypeId} {x y:Operand} {m n:Int} (hx:rd env x=.t (.int .i64 m)) (hy:rd env y=.t (.int .i64 n)):OpR g d i env fr (.binOp .sub xt x y yt) (.t (.int .i64 (IntKind.wrap .i64 (m - n)))) fr []:=
 .bin hx hy (by unfold binS;simp only [if_true,intS])
end
theorem term_g:cfg.P.eqGuardType cfg.P.depth 122=false:=by kernel_rfl
theorem term_eq (a b a' b':Int):eqC cfg.P 20 122 [.int .i64 a,.int .i64 b] [.int .i64 a',.int .i64 b']=some (decide (a=a') && (decide (b=b') && true)):=by kernel_rfl
theorem rterms_c {A B:List Tm} (hA:A.length≤140737488351232) (hB:B.length≤140737488351232):Cl cfg 152 [.t (.arr (tmE A)),.t (.arr (tmE B))] [] (.t (.bool (decide (A=B)))) []:=by
 refine Cl.of_body rfl Tryz.func152 rfl rfl rfl ?_
 have hlA:=tmE_len A
 have hlB:=tmE_len B
 by_cases hl:A.length=B.length
 ·
  have e0:decide (A=B)=decide (A.drop 0=B.drop 0):=rfl
  refine drvR ?_
  refine EvL.ind (fun q:Nat=>[(5,.t (.int .i64 (q:Int)))]) (fun q=>q≤A.length∧decide (A=B)=decide (A.drop q=B.drop q)) (fun q=>A.length - q) 0 rfl ⟨by omega,rfl⟩ (fun q hq=>?_)
  obtain ⟨h1,h2⟩:=hq
  rw [h2]
  rcases Nat.lt_or_ge q A.length with h3|h3
  ·
   obtain ⟨x,hx⟩:=get_of_lt h3
   obtain ⟨y,hy⟩:=get_of_lt (xs:=B) (k:=q) (by omega)
   have hc:=tmE_get hx
   have hd:=tmE_get hy
   by_cases he:x=y
   ·
    have ha:decide (A.drop q=B.drop q)=decide (A.drop (q+1)=B.drop (q+1)):=by rw [drop_get hx,drop_get hy,he];simp
    have hte:eqC cfg.P 20 122 [.int .i64 x.cell,.int .i64 x.factor] [.int .i64 y.cell,.int .i64 y.factor]=some true:=by rw [term_eq,he];simp
    repeat' (first
|(with_reducible first|apply EvK.seq|apply EvK.block)
|((with_reducible apply EvK.text);(try case hm=>exact rfl))
|((with_reducible apply EvK.drawn);(case hm=>exact rfl))
|(with_reducible first|apply EvK.skip|apply thenK_n|apply blockK_n)
|((with_reducible apply EvK.cond_t);(case hc=>exact rfl))
|((with_reducible apply EvK.cond_f);(case hc=>exact rfl))
|((with_reducible apply EvO.spd_t);(case hp=>exact fao))
|(with_reducible apply EvO.nilT)
|((with_reducible apply EvO.u0);(case hx=>first
|((with_reducible apply OpR.nes);(case hx|hy=>exact rfl);(case hg=>exact term_g);(case ht=>exact rfl);(case hr=>exact hte))
|exact opq))
|fail)
    exact ⟨q+1,rfl,rfl,⟨by omega,ha⟩,by omega⟩
   ·
    have ha:decide (A.drop q=B.drop q)=false:=by rw [drop_get hx,drop_get hy];simp [he]
    have hte:eqC cfg.P 20 122 [.int .i64 x.cell,.int .i64 x.factor] [.int .i64 y.cell,.int .i64 y.factor]=some false:=by
     rw [term_eq]
     obtain ⟨x1,x2⟩:=x
     obtain ⟨y1,y2⟩:=y
     simp at he ⊢
     exact he
    rw [ha]
    repeat' (first
|(with_reducible first|apply EvK.seq|apply EvK.block)
|((with_reducible apply EvK.text);(try case hm=>exact rfl))
|((with_reducible apply EvK.drawn);(case hm=>exact rfl))
|(with_reducible first|apply EvK.skip|apply EvK.ret|apply thenK_n|apply thenK_r|apply blockK_r)
|((with_reducible apply EvK.cond_t);(case hc=>exact rfl))
|((with_reducible apply EvO.spd_t);(case hp=>exact fao))
|(with_reducible apply EvO.nilT)
|((with_reducible apply EvO.u0);(case hx=>first
|((with_reducible apply OpR.nes);(case hx|hy=>exact rfl);(case hg=>exact term_g);(case ht=>exact rfl);(case hr=>exact hte))
|exact opq))
|fail)
    exact ⟨.inr rfl,rfl⟩
  ·
   have ha:decide (A.drop q=B.drop q)=true:=by rw [drop_end h3,drop_end (l:=B) (by omega)];rfl
   rw [ha]
   exact drv
 ·
  have ha:decide (A=B)=false:=by simp;intro h;exact hl (by rw [h])
  rw [ha]
  exact drv
theorem rsame_c {A B:Rw} (hA:A.terms.length≤140737488351232) (hB:B.terms.length≤140737488351232):Cl cfg 130 [.t (.agg (rwC A)),.t (.agg (rwC B))] [] (.t (.bool (decide (A=B)))) []:=by
 obtain ⟨T,n⟩:=A
 obtain ⟨U,m⟩:=B
 have kt:=rterms_c (A:=T) (B:=U) hA hB
 have e1:rwC ⟨T,n⟩=[.arr (tmE T),.int .i64 n]:=rfl
 have e2:rwC ⟨U,m⟩=[.arr (tmE U),.int .i64 m]:=rfl
 rw [e1,e2]
 refine Cl.of_body rfl Tryz.func130 rfl rfl rfl ?_
 by_cases h1:n=m
 ·
  have ha:decide ((⟨T,n⟩:Rw)=⟨U,m⟩)=decide (T=U):=by simp [h1]
  rw [ha]
  obtain ⟨b,hb⟩:∃ b,decide (T=U)=b:=⟨_,rfl⟩
  rw [hb] at kt ⊢
  cases b with
  | true=>
   exact drv
  | false=>
   exact drv
 ·
  have ha:decide ((⟨T,n⟩:Rw)=⟨U,m⟩)=false:=by simp [h1]
  rw [ha]
  exact drv
theorem okstr (L:List ByteArray):okSz 1 (nmE L)=true:=by
 cases L <;> rfl
theorem takestr (L:List ByteArray) (k:Nat):(nmE L).take k=(L.take k).map fun s=>[.str s]:=by simp [nmE,List.map_take]
theorem distR_bad {L:List ByteArray} {q:Nat} {s:ByteArray} (h:L[q]?=some s) (hb:¬ (nmB s=true∧((L.take q).any fun u=>decide (u=s))=false)):allG (distOk L) q (L.drop q)=false:=by
 rw [allG_hit h]
 have:distOk L q s=false:=by
  rw [← Bool.not_eq_true]
  intro h'
  simp only [distOk,Bool.and_eq_true,Bool.not_eq_true'] at h'
  exact hb h'
 rw [this];rfl
theorem distR_ok {L:List ByteArray} {q:Nat} {s:ByteArray} (h:L[q]?=some s) (h1:nmB s=true) (h2:((L.take q).any fun u=>decide (u=s))=false):allG (distOk L) q (L.drop q)=allG (distOk L) (q+1) (L.drop (q+1)):=by
 rw [allG_hit h]
 unfold distOk
 rw [h1,h2];rfl
theorem rdist_c {L:List ByteArray} (hl:L.length≤140737488351232):Cl cfg 97 [.t (.arr (nmE L))] [] (.t (.bool (distB L))) []:=by
 have hL:=nmE_len L
 have e0:distB L=allG (distOk L) 0 (L.drop 0):=rfl
 rw [e0]
 refine Cl.of_body rfl Tryz.func97 rfl rfl rfl ?_
 refine drvR ?_
 refine EvL.ind (fun q:Nat=>[(3,.t (.int .i64 (q:Int)))]) (fun q=>q≤L.length∧allG (distOk L) 0 (L.drop 0)=allG (distOk L) q (L.drop q)) (fun q=>L.length - q) 0 rfl ⟨by omega,rfl⟩ (fun q hq=>?_)
 obtain ⟨h1,h2⟩:=hq
 rw [h2]
 rcases Nat.lt_or_ge q L.length with h3|h3
 ·
  obtain ⟨s,hs⟩:=get_of_lt h3
  have hc:=nmE_get hs
  have kn:=rname_c s
  have kh:=rhas_c (L:=L.take q) (s:=s) (by simp;omega)
  have hbad:=distR_bad hs
  have hok:=distR_ok hs
  cases hn:nmB s with
  | false=>
   rw [hn] at kn
   rw [hbad (fun h=>by rw [hn] at h;cases h.1)]
   exact drv
  | true=>
   rw [hn] at kn
   cases ha:(L.take q).any fun u=>decide (u=s) with
   | true=>
    rw [ha] at kh
    rw [hbad (fun h=>by rw [ha] at h;cases h.2)]
    repeat' (first
|(with_reducible first|apply EvK.seq|apply EvK.block)
|((with_reducible apply EvK.text);(try case hm=>exact rfl))
|((with_reducible apply EvK.drawn);(case hm=>exact rfl))
|(with_reducible first|apply EvK.skip|apply EvK.ret|apply thenK_n|apply thenK_r|apply blockK_r)
|((with_reducible apply EvK.cond_t);(case hc=>exact rfl))
|((with_reducible apply EvO.spd_t);(case hp=>exact fao))
|(with_reducible apply EvO.nilT)
|((with_reducible apply EvO.gt0);(case hW=>exact rfl);(case hx=>first
|((with_reducible apply OpR.slh);(case he|hx|hi=>exact rfl);(case hn=>(rw [hL];omega));(case hz=>exact okstr _);(case hv=>exact takestr _ _))
|(exact oqF kh)
|exact opq))
|((with_reducible apply EvO.u0);(case hx=>first
|(exact oqF kn)
|exact opq))
|fail)
    exact ⟨.inr rfl,rfl⟩
   | false=>
    rw [ha] at kh
    repeat' (first
|(with_reducible first|apply EvK.seq|apply EvK.block)
|((with_reducible apply EvK.text);(try case hm=>exact rfl))
|((with_reducible apply EvK.drawn);(case hm=>exact rfl))
|(with_reducible first|apply EvK.skip|apply thenK_n|apply blockK_n)
|((with_reducible apply EvK.cond_t);(case hc=>exact rfl))
|((with_reducible apply EvK.cond_f);(case hc=>exact rfl))
|((with_reducible apply EvO.spd_t);(case hp=>exact fao))
|(with_reducible apply EvO.nilT)
|((with_reducible apply EvO.gt0);(case hW=>exact rfl);(case hx=>first
|((with_reducible apply OpR.slh);(case he|hx|hi=>exact rfl);(case hn=>(rw [hL];omega));(case hz=>exact okstr _);(case hv=>exact takestr _ _))
|(exact oqF kh)
|exact opq))
|((with_reducible apply EvO.u0);(case hx=>first
|(exact oqF kn)
|exact opq))
|fail)
    exact ⟨q+1,rfl,rfl,⟨by omega,hok hn ha⟩,by omega⟩
 ·
  rw [allG_end h3]
  exact drv
theorem rbtw1 (n:Int):Cl cfg 133 [.t (.int .i64 n),.t (.int .i64 1000)] [] (.t (.bool (btw n 1000))) []:=by
 refine Cl.of_body rfl Tryz.func133 rfl rfl rfl ?_
 repeat' (first
|(with_reducible apply EvK.seq)
|((with_reducible apply EvK.text);(try case hm=>exact rfl))
|(with_reducible apply EvK.ret)
|((with_reducible apply EvO.spd) <;> intro hq)
|((with_reducible apply EvO.spd_y) <;> intro hq)
|(with_reducible apply EvO.nilT)
|((with_reducible apply EvO.gf);(case hW=>exact rfl))
|((with_reducible apply EvO.gt0);(case hW=>exact rfl);(case hx=>exact opq))
|((with_reducible apply EvO.u0);(case hx=>first
|((with_reducible apply OpR.negr);(case hx=>exact rfl);(case h=>omega))
|exact opq))
|fail)
 all_goals (refine fin_b (.inr rfl) rfl ?_;unfold btw;first|(simp_all;done)|(simp_all;omega))
theorem rbtw2 (n:Int):Cl cfg 133 [.t (.int .i64 n),.t (.int .i64 9999)] [] (.t (.bool (btw n 9999))) []:=by
 refine Cl.of_body rfl Tryz.func133 rfl rfl rfl ?_
 repeat' (first
|(with_reducible apply EvK.seq)
|((with_reducible apply EvK.text);(try case hm=>exact rfl))
|(with_reducible apply EvK.ret)
|((with_reducible apply EvO.spd) <;> intro hq)
|((with_reducible apply EvO.spd_y) <;> intro hq)
|(with_reducible apply EvO.nilT)
|((with_reducible apply EvO.gf);(case hW=>exact rfl))
|((with_reducible apply EvO.gt0);(case hW=>exact rfl);(case hx=>exact opq))
|((with_reducible apply EvO.u0);(case hx=>first
|((with_reducible apply OpR.negr);(case hx=>exact rfl);(case h=>omega))
|exact opq))
|fail)
 all_goals (refine fin_b (.inr rfl) rfl ?_;unfold btw;first|(simp_all;done)|(simp_all;omega))
theorem rbtw3 (n:Int):Cl cfg 133 [.t (.int .i64 n),.t (.int .i64 1000000000)] [] (.t (.bool (btw n 1000000000))) []:=by
 refine Cl.of_body rfl Tryz.func133 rfl rfl rfl ?_
 repeat' (first
|(with_reducible apply EvK.seq)
|((with_reducible apply EvK.text);(try case hm=>exact rfl))
|(with_reducible apply EvK.ret)
|((with_reducible apply EvO.spd) <;> intro hq)
|((with_reducible apply EvO.spd_y) <;> intro hq)
|(with_reducible apply EvO.nilT)
|((with_reducible apply EvO.gf);(case hW=>exact rfl))
|((with_reducible apply EvO.gt0);(case hW=>exact rfl);(case hx=>exact opq))
|((with_reducible apply EvO.u0);(case hx=>first
|((with_reducible apply OpR.negr);(case hx=>exact rfl);(case h=>omega))
|exact opq))
|fail)
 all_goals (refine fin_b (.inr rfl) rfl ?_;unfold btw;first|(simp_all;done)|(simp_all;omega))
theorem termOk_iff {n:Int} {l:List Tm} {i:Nat} {t:Tm}:termOk n l i t=true↔(0≤t.cell∧t.cell < n)∧(i=0∨(l.getD (i - 1) ⟨0,0⟩).cell < t.cell)∧t.factor≠0∧btw t.factor 1000=true:=by
 unfold termOk
 simp only [Bool.and_eq_true,Bool.or_eq_true,Bool.not_eq_true',decide_eq_true_eq,decide_eq_false_iff_not,ne_eq]
section
variable {α:Type} {p:Nat→α→Bool} {l:List α} {q:Nat} {x:α}
theorem allG_bad (h:l[q]?=some x) (hb:¬ p q x=true):allG p q (l.drop q)=false:=by
 rw [allG_hit h,Bool.not_eq_true _ |>.mp hb];rfl
theorem allG_ok (h:l[q]?=some x) (hb:p q x=true):allG p q (l.drop q)=allG p (q+1) (l.drop (q+1)):=by
 rw [allG_hit h,hb];rfl
end
theorem rrow_c {n:Int} {r:Rw} (hl:r.terms.length≤140737488351232):Cl cfg 131 [.t (.agg (rwC r)),.t (.int .i64 n)] [] (.t (.bool (rowB n r))) []:=by
 obtain ⟨T,B⟩:=r
 have e1:rwC ⟨T,B⟩=[.arr (tmE T),.int .i64 B]:=rfl
 have e2:rowB n ⟨T,B⟩=(allG (termOk n T) 0 (T.drop 0) && btw B 1000000000):=rfl
 rw [e1,e2]
 have hl:T.length≤140737488351232:=hl
 have hT:=tmE_len T
 have kB:=rbtw3 B
 refine Cl.of_body rfl Tryz.func131 rfl rfl rfl ?_
 refine drvR ?_
 refine EvL.ind (fun q:Nat=>[(5,.t (.int .i64 (q:Int)))]) (fun q=>q≤T.length∧allG (termOk n T) 0 (T.drop 0)=allG (termOk n T) q (T.drop q)) (fun q=>T.length - q) 0 rfl ⟨by omega,rfl⟩ (fun q hq=>?_)
 obtain ⟨h1,h2⟩:=hq
 rw [h2]
 rcases Nat.lt_or_ge q T.length with h3|h3
 ·
  obtain ⟨t,ht⟩:=get_of_lt h3
  have hc:=tmE_get ht
  have kf:=rbtw1 t.factor
  have hbad:=allG_bad (p:=termOk n T) ht
  have hok:=allG_ok (p:=termOk n T) ht
  rw [termOk_iff] at hbad hok
  obtain ⟨bf,hbf⟩:∃ b,btw t.factor 1000=b:=⟨_,rfl⟩
  rw [hbf] at kf hbad hok
  cases q with
  | zero=>
   cases bf with
   | false=>
    rw [hbad (fun h=>by cases h.2.2.2)]
    exact drv
   | true=>
    repeat' (first
|(with_reducible first|apply EvK.seq|apply EvK.block)
|((with_reducible apply EvK.text);(try case hm=>exact rfl))
|((with_reducible apply EvK.drawn);(case hm=>exact rfl))
|(with_reducible first|apply EvK.skip|apply EvK.ret|apply thenK_n|apply thenK_r|apply blockK_n|apply blockK_r)
|((with_reducible apply EvK.cond_t);(case hc=>exact rfl))
|((with_reducible apply EvK.cond_f);(case hc=>exact rfl))
|((with_reducible apply EvO.spd_t);(case hp=>exact fao))
|((with_reducible apply EvO.spd) <;> intro hq)
|((with_reducible apply EvO.spd_yf);(case hp=>exact fao))
|((with_reducible apply EvO.spd_y) <;> intro hq)
|(with_reducible apply EvO.nilT)
|((with_reducible apply EvO.gf);(case hW=>exact rfl))
|((with_reducible apply EvO.gt0);(case hW=>exact rfl);(case hx=>first
|(exact oqF kf)
|exact opq))
|((with_reducible apply EvO.u0);(case hx=>exact opq))
|fail)
    all_goals first
     | exact fin_b (.inr rfl) rfl (by rw [hbad (fun h=>by obtain ⟨_,_,_,_⟩:=h;omega)];rfl)
     | exact ⟨0+1,rfl,rfl,⟨by omega,hok ⟨by omega,.inl rfl,by omega,rfl⟩⟩,by omega⟩
  | succ k=>
   obtain ⟨u,hu⟩:=get_of_lt (xs:=T) (k:=k) (by omega)
   have hcu:=tmE_get hu
   have hcu':(tmE T)[((k+1:Nat) - 1:Int).toNat]?=some [.int .i64 u.cell,.int .i64 u.factor]:=by rw [show ((k+1:Nat) - 1:Int).toNat=k by omega];exact hcu
   have hgu:T.getD (k+1 - 1) ⟨0,0⟩=u:=by rw [Nat.add_sub_cancel,List.getD_eq_getElem?_getD,hu];rfl
   rw [hgu] at hbad hok
   cases bf with
   | false=>
    rw [hbad (fun h=>by cases h.2.2.2)]
    exact drv
   | true=>
    repeat' (first
|(with_reducible first|apply EvK.seq|apply EvK.block)
|((with_reducible apply EvK.text);(try case hm=>exact rfl))
|((with_reducible apply EvK.drawn);(case hm=>exact rfl))
|(with_reducible first|apply EvK.skip|apply EvK.ret|apply thenK_n|apply thenK_r|apply blockK_n|apply blockK_r)
|((with_reducible apply EvK.cond_t);(case hc=>exact rfl))
|((with_reducible apply EvK.cond_f);(case hc=>exact rfl))
|((with_reducible apply EvO.spd_t);(case hp=>exact fao))
|((with_reducible apply EvO.spd) <;> intro hq)
|((with_reducible apply EvO.spd_yt);(case hp=>exact fao))
|((with_reducible apply EvO.spd_y) <;> intro hq)
|(with_reducible apply EvO.nilT)
|((with_reducible apply EvO.gf);(case hW=>exact rfl))
|((with_reducible apply EvO.gt0);(case hW=>exact rfl);(case hx=>first
|(exact oqF kf)
|exact opq))
|((with_reducible apply EvO.u0);(case hx=>exact opq))
|fail)
    all_goals first
     | exact fin_b (.inr rfl) rfl (by rw [hbad (fun h=>by obtain ⟨_,_,_,_⟩:=h;omega)];rfl)
     | exact ⟨k+1+1,rfl,rfl,⟨by omega,hok ⟨by omega,.inr (by omega),by omega,rfl⟩⟩,by omega⟩
 ·
  rw [allG_end h3]
  exact drv
end Go.Proofs.YtcpgmmlaimkojaaGreatDoor
namespace Go.Proofs.YtcpgmmlaimkojaaGreatDoor
open Go.RowKit
set_option maxRecDepth 100000
set_option maxHeartbeats 16000000
theorem rgE_app (l m:List (Int×Int)):rgE l++rgE m=rgE (l++m):=by unfold rgE;rw [List.map_append]
theorem lenR {n:Nat} (h:n≤4000):lenOk n 16=true:=by simp [lenOk];omega
def rngP (S:List Int) (L:List Tb) (s:Bool) (q k:Nat) (t:Tb):List (Int×Int):=(L.take q).flatMap (rngsT S s)++List.replicate k (t.lo,t.hi)
theorem rngP_snoc {S:List Int} {L:List Tb} {s:Bool} {q k:Nat} {t:Tb}:rngP S L s q k t++[(t.lo,t.hi)]=rngP S L s q (k+1) t:=by
 unfold rngP
 rw [repl_snoc,List.append_assoc]
theorem rngP_end {S:List Int} {L:List Tb} {s:Bool} {q k:Nat} {t:Tb} (ht:L[q]?=some t) (hs:strictK t.kind=s) (hk:(numberS S t.cols).toNat=k):rngP S L s q k t=(L.take (q+1)).flatMap (rngsT S s):=by
 unfold rngP
 rw [flat_snoc ht]
 unfold rngsT
 rw [if_pos hs,hk]
theorem rngP_no {S:List Int} {L:List Tb} {s:Bool} {q:Nat} {t:Tb} (ht:L[q]?=some t) (hs:strictK t.kind≠s):(L.take q).flatMap (rngsT S s)=(L.take (q+1)).flatMap (rngsT S s):=by
 rw [flat_snoc ht]
 unfold rngsT
 rw [if_neg hs,List.append_nil]
theorem rrngs_c {S:List Int} {L:List Tb} (s:Bool) (hS:S.length≤140737488351232) (hL:L.length≤140737488351232) (hC:∀ t∈L,t.cols.length≤140737488351232):Cl cfg 105 [.t (intsA S),.t (.arr (tbE L)),.t (.bool s)] [] (.ls 0) [.row false false 2 (rgE (rngs S L s))]:=by
 have kv:=rlay_c hS hL hC
 have hlS:=intsE_len S
 have hlL:=tbE_len L
 cases hv:layB S L with
 | false=>
  have hr:rngs S L s=[]:=by unfold rngs;rw [hv];rfl
  rw [hv] at kv
  rw [hr]
  refine Cl.of_body rfl Tryz.func105 rfl rfl rfl ?_
  exact drv
 | true=>
  have hr:rngs S L s=L.flatMap (rngsT S s):=by unfold rngs;rw [hv];rfl
  have hfew:=lay_few hv
  rw [hv] at kv
  rw [hr]
  refine Cl.of_body rfl Tryz.func105 rfl rfl rfl ?_
  refine drvR ?_
  refine EvL.indF (fun x:Nat×Bool=>[(7,.ls 0),(8,.t (.int .i64 (x.1:Int)))]) (fun x=>[.row false x.2 2 (rgE ((L.take x.1).flatMap (rngsT S s)))]) (fun x=>x.1≤L.length) (fun x=>L.length - x.1) (0,false) rfl rfl (by simp) (fun x hq=>?_)
  obtain ⟨q,tch⟩:=x
  dsimp only at hq ⊢
  rcases Nat.lt_or_ge q L.length with h3|h3
  ·
   obtain ⟨t,ht⟩:=get_of_lt h3
   have hc:=tbE_get ht
   have kN:=rnumber_c (S:=S) (C:=t.cols) hS (hC t (List.mem_of_getElem? ht))
   have kst:=rstrict_c t.kind
   have hbN:=numberS_bnd S t.cols
   have hle:=rngsT_le S s (L.take q)
   have hql:(L.take q).length≤12:=by simp;omega
   by_cases hs:strictK t.kind=s
   ·
    rw [hs] at kst
    obtain ⟨N,hN⟩:∃ N,(numberS S t.cols).toNat=N:=⟨_,rfl⟩
    have hN':numberS S t.cols=(N:Int):=by omega
    have hend:=rngP_end ht hs hN
    rw [hN'] at kN hbN
    have h0:(L.take q).flatMap (rngsT S s)=rngP S L s q 0 t:=by unfold rngP;simp
    rw [h0]
    have hlP:∀ k,(rngP S L s q k t).length≤2592+k:=fun k=>by unfold rngP;rw [List.length_append,List.length_replicate];omega
    refine drvR ?_
    refine EvL.indF (fun x:Nat×Bool=>[(7,.ls 0),(9,.t (.int .i64 (x.1:Int)))]) (fun x=>[.row false x.2 2 (rgE (rngP S L s q x.1 t))]) (fun x=>x.1≤N) (fun x=>N - x.1) (0,tch) rfl rfl (by simp) (fun x hk=>?_)
    obtain ⟨k,tch2⟩:=x
    dsimp only at hk ⊢
    rcases Nat.lt_or_ge k N with h4|h4
    ·
     have hsn:rgE (rngP S L s q k t)++[[.int .i64 t.lo,.int .i64 t.hi]]=rgE (rngP S L s q (k+1) t):=by rw [← rngP_snoc];exact rgE_app _ [(t.lo,t.hi)]
     have hlX:lenOk ((rgE (rngP S L s q k t)).length+1) 16=true:=by
      have:=hlP k
      rw [rgE_len]
      exact lenR (by omega)
     cases s <;>
     repeat' (first
|(with_reducible first|apply EvK.seq|apply EvK.block)
|((with_reducible apply EvK.text);(try case hm=>exact rfl))
|(with_reducible first|apply EvK.skip|apply thenK_n)
|((with_reducible apply EvK.cond_t);(case hc=>exact rfl))
|((with_reducible apply EvO.spd_yt);(case hp=>exact fao))
|(with_reducible first|apply EvO.nilT|apply EvO.nilB)
|((with_reducible apply EvO.u);(case hx=>((with_reducible apply OpR.apr);(case hs=>exact fun _=>rfl);(case ha|ht=>exact rfl);(case hr=>first|(with_reducible exact rw0)|(with_reducible exact rw1)|(with_reducible exact rw2)|(with_reducible exact rw3)|(with_reducible exact rw4)|exact rfl);(case hx|hy|hn|hb|hok=>exact rfl);(case hlen=>exact hlX);(case hv=>exact hsn);(case hk=>exact kfr);(case hf=>exact leq))))
|((with_reducible apply EvO.gt0);(case hW=>exact rfl);(case hx=>first
|(exact oqF kN)
|exact opq))
|((with_reducible apply EvO.u0);(case hx=>first
|(exact oqF kst)
|exact opq))
|fail)
     all_goals exact ⟨(k+1,true),rfl,rfl,by dsimp only;omega,by dsimp only;omega⟩
    ·
     obtain rfl:k=N:=by omega
     rw [hend]
     cases s <;>
     refine drvR ?_
     all_goals exact ⟨(q+1,tch2),rfl,rfl,by dsimp only;omega,by dsimp only;omega⟩
   ·
    have hst:strictK t.kind=!s:=by cases s <;> simp_all
    rw [hst] at kst
    rw [rngP_no ht hs]
    refine drvR ?_
    refine EvL.step ?_
    cases s <;>
    refine drvR ?_
    all_goals exact ⟨(q+1,tch),rfl,rfl,by dsimp only;omega,by dsimp only;omega⟩
  ·
   rw [List.take_of_length_le h3]
   exact drv
end Go.Proofs.YtcpgmmlaimkojaaGreatDoor
namespace Go.Proofs.YtcpgmmlaimkojaaGreatDoor
open Go.RowKit
set_option maxRecDepth 100000
set_option maxHeartbeats 16000000
theorem mkI_eq (fr:Fr) (m n:Int):makeE cfg.P fr 22 (.t (.int .i64 m)) (.t (.int .i64 n))=match decide (0≤m) && decide (m≤n) && Nat.ble (n.toNat * 8) 281474976710656 && Nat.ble n.toNat 140737488351232 with
  | true=>some (.ls fr.length,fr++[.row false false 1 (List.replicate m.toNat [.int .i64 0])],[])
  | false=>none:=by kernel_rfl
theorem mkI {fr:Fr} {n:Nat} (h:n≤1000):makeE cfg.P fr 22 (.t (.int .i64 (n:Int))) (.t (.int .i64 (n:Int)))=some (.ls fr.length,fr++[.row false false 1 (intsE (List.replicate n 0))],[]):=by
 have e:(decide (0≤(n:Int)) && decide ((n:Int)≤n) && Nat.ble ((n:Int).toNat * 8) 281474976710656 && Nat.ble (n:Int).toNat 140737488351232)=true:=by
  rw [Int.toNat_natCast]
  have h1:Nat.ble (n * 8) 281474976710656=true:=by rw [Nat.ble_eq];omega
  have h2:Nat.ble n 140737488351232=true:=by rw [Nat.ble_eq];omega
  rw [h1,h2]
  simp
 rw [mkI_eq,e]
 simp [intsE]
theorem rnth_c {S C:List Int} {K:Int} (hs:soundB S=true) (hc:C.all (colOk S)=true) (hS:S.length≤140737488351232) (hC:C.length≤3) (h0:0≤K) (hK:K≤1000):Cl cfg 165 [.t (intsA S),.t (intsA C),.t (.int .i64 K)] [] (.ls 0) [.row false false 1 (intsE (nthS S C K))]:=by
 have hlS:=intsE_len S
 have hlC:=intsE_len C
 have hm:=mkI (fr:=[]) (n:=C.length) (by omega)
 have hrep:=intsE_len (List.replicate C.length 0)
 rw [List.length_replicate] at hrep
 refine Cl.of_body rfl Tryz.func165 rfl rfl rfl ?_
 repeat' (first
|(with_reducible first|apply EvK.seq|apply EvK.block)
|((with_reducible apply EvK.text);(try case hm=>exact rfl))
|(with_reducible apply EvO.nilT)
|((with_reducible apply EvO.u0);(case hx=>first
|((with_reducible apply OpR.mks);(case hs=>exact fun _=>rfl);(case hl|hc=>exact rfl);(case hm=>exact hm);(case hf=>exact leq))
|exact opq))
|fail)
 apply EvK.loopV
 case ho=>exact rfl
 case hp=>exact rfl
 case hl=>exact rfl
 case hs=>exact slt
 refine EvL.indF (fun x:Nat×Int×List Int=>[(2,.t (.int .i64 x.2.1)),(8,.t (.int .i64 ((x.1:Int) - 1)))]) (fun x=>[.row false false 1 (intsE x.2.2)]) (fun x=>x.1≤C.length∧0≤x.2.1∧x.2.1≤1000∧x.2.2.length=C.length∧nthG S C x.1 x.2.1 x.2.2=nthS S C K) (fun x=>x.1) (C.length,K,List.replicate C.length 0) rfl rfl ⟨by dsimp only;omega,h0,hK,by simp,rfl⟩ (fun x hx=>?_)
 obtain ⟨j,k,r⟩:=x
 dsimp only at hx ⊢
 obtain ⟨h1,h2,h3,h4,h5⟩:=hx
 cases j with
 | zero=>
  rw [← h5]
  exact drv
 | succ j=>
  obtain ⟨c,hcj⟩:=get_of_lt (xs:=C) (k:=j) (by omega)
  have hcc:=intsE_get hcj
  have hco:=List.all_eq_true.1 hc c (List.mem_of_getElem? hcj)
  obtain ⟨g1,g2⟩:=col_at hs hco
  simp only [colOk,Bool.and_eq_true,decide_eq_true_eq] at hco
  obtain ⟨g3,g4⟩:=hco
  obtain ⟨s,hsk⟩:=get_of_lt (xs:=S) (k:=c.toNat) (by omega)
  have hsc:=intsE_get hsk
  rw [getD_get hsk] at g1 g2
  obtain ⟨v,hv⟩:=get_of_lt (xs:=r) (k:=j) (by omega)
  have hvc:=intsE_get hv
  have hlr:=intsE_len r
  have ej:(((j+1:Nat):Int) - 1)=(j:Int):=by omega
  rw [ej]
  have hk':(intsE r)[((j:Nat):Int).toNat]?=some [.int .i64 v]:=by rw [Int.toNat_natCast];exact hvc
  have hst:(intsE r).set ((j:Nat):Int).toNat [.int .i64 (k.tmod s)]=intsE (r.set j (k.tmod s)):=by rw [Int.toNat_natCast];simp [intsE,List.map_set]
  have hd:0≤k.tdiv s∧k.tdiv s≤k:=by
   rw [Int.tdiv_eq_ediv_of_nonneg h2]
   exact ⟨Int.ediv_nonneg h2 (by omega),Int.ediv_le_self _ h2⟩
  have hnx:nthG S C (j+1) k r=nthG S C j (k.tdiv s) (r.set j (k.tmod s)):=by
   have e1:C.getD j 0=c:=getD_get hcj
   have e2:S.getD c.toNat 0=s:=getD_get hsk
   rw [nthG,e1,e2]
  obtain ⟨kd,hkd⟩:∃ kd,k.tdiv s=kd:=⟨_,rfl⟩
  rw [hkd] at hd hnx
  repeat' (first
|(with_reducible first|apply EvK.seq|apply EvK.block)
|((with_reducible apply EvK.text);(try case hm=>exact rfl))
|(with_reducible first|apply EvK.skip|apply thenK_n)
|((with_reducible apply EvK.cond_t);(case hc=>exact rfl))
|((with_reducible apply EvO.spd_t);(case hp=>exact fao))
|(with_reducible first|apply EvO.nilT|apply EvO.nilB)
|((with_reducible apply EvO.u0);(case hx=>first
|((with_reducible apply OpR.remv);(case hx|hy=>exact rfl);(case hn=>omega);(case h=>exact rfl))
|((with_reducible apply OpR.quov);(case hx|hy=>exact rfl);(case hn=>omega);(case h=>exact hkd);(case hb=>omega))
|((with_reducible apply OpR.sti);(case hs=>exact fun _=>rfl);(case ha|hy|ht|hone=>exact rfl);(case hn=>kernel_rfl);(case hb=>exact rfl);(case hk=>exact hk');(case hj=>exact rfl);(case hv=>exact hst);(case hf=>exact leq))
|exact opq))
|fail)
  exact ⟨(j,kd,r.set j (k.tmod s)),rfl,rfl,⟨by dsimp only;omega,by dsimp only;omega,by dsimp only;omega,by simp [h4],by dsimp only;rw [← hnx];exact h5⟩,by dsimp only;omega⟩
theorem inT_iff {S:List Int} {s:Bool} {c:Int} {t:Tb}:inT S s c t=true↔strictK t.kind=s∧0≤c∧0≤c - t.first∧c - t.first < numberS S t.cols:=by
 unfold inT
 simp only [Bool.and_eq_true,decide_eq_true_eq]
theorem lay_first {S:List Int} {L:List Tb} (h:layB S L=true) {k:Nat} {t:Tb} (ht:L[k]?=some t):0≤t.first∧t.first≤5000:=by
 have h1:=lay_tab h ht
 simp only [tabOk,Bool.and_eq_true,decide_eq_true_eq] at h1
 have h2:=cnt_bnd (S:=S) (strictK t.kind) (L.take k)
 have h3:=lay_few h
 have h4:(L.take k).length≤L.length:=by simp;omega
 omega
theorem rtuple_c {S:List Int} {L:List Tb} {s:Bool} {c:Int} (hS:S.length≤140737488351232) (hL:L.length≤140737488351232) (hC:∀ t∈L,t.cols.length≤140737488351232) (hc:c≤9223372036854775807):match tabAt S L s c with
  | some (i,t)=>Cl cfg 153 [.t (intsA S),.t (.arr (tbE L)),.t (.bool s),.t (.int .i64 c)] [] (.tup [.t (.int .i64 (i:Int)),.ls 0,.t (.bool true)]) [.row false false 1 (intsE (nthS S t.cols (c - t.first)))]
  | none=>Cl cfg 153 [.t (intsA S),.t (.arr (tbE L)),.t (.bool s),.t (.int .i64 c)] [] (.tup [.t (.int .i64 0),.nil,.t (.bool false)]) []:=by
 have kv:=rlay_c hS hL hC
 have hlS:=intsE_len S
 have hlL:=tbE_len L
 cases hv:layB S L with
 | false=>
  have hr:tabAt S L s c=none:=by unfold tabAt;rw [hv];rfl
  rw [hv] at kv
  rw [hr]
  refine Cl.of_body rfl Tryz.func153 rfl rfl rfl ?_
  exact drv
 | true=>
  have hr:tabAt S L s c=findG (inT S s c) 0 L:=by unfold tabAt;rw [hv];rfl
  rw [hv] at kv
  rw [hr]
  cases hf:findG (inT S s c) 0 L with
  | none=>
   show Cl cfg 153 _ [] _ []
   refine Cl.of_body rfl Tryz.func153 rfl rfl rfl ?_
   refine drvR ?_
   refine EvL.ind (fun q:Nat=>[(11,.t (.int .i64 (q:Int)))]) (fun q=>q≤L.length∧findG (inT S s c) q (L.drop q)=none) (fun q=>L.length - q) 0 rfl ⟨by omega,hf⟩ (fun q hq=>?_)
   obtain ⟨h1,h2⟩:=hq
   rcases Nat.lt_or_ge q L.length with h3|h3
   ·
    obtain ⟨t,ht⟩:=get_of_lt h3
    have htc:=tbE_get ht
    have kN:=rnumber_c (S:=S) (C:=t.cols) hS (hC t (List.mem_of_getElem? ht))
    have kst:=rstrict_c t.kind
    obtain ⟨f0,f1⟩:=lay_first hv ht
    rw [findG_hit ht] at h2
    obtain ⟨N,hN⟩:∃ N,numberS S t.cols=N:=⟨_,rfl⟩
    cases hi:inT S s c t with
    | true=>rw [hi] at h2;cases h2
    | false=>
     rw [hi] at h2
     have hni:¬ (strictK t.kind=s∧0≤c∧0≤c - t.first∧c - t.first < numberS S t.cols):=fun h=>by rw [inT_iff.2 h] at hi;cases hi
     rw [hN] at kN hni
     by_cases hs:strictK t.kind=s
     ·
      rw [hs] at kst
      by_cases h0:0≤c
      ·
       cases s <;>
       repeat' (first
|(with_reducible first|apply EvK.seq|apply EvK.block)
|((with_reducible apply EvK.text);(try case hm=>exact rfl))
|(with_reducible first|apply EvK.skip|apply thenK_n|apply blockK_n)
|((with_reducible apply EvK.cond_t);(case hc=>exact rfl))
|((with_reducible apply EvK.cond_f);(case hc=>exact rfl))
|((with_reducible apply EvO.spd_t);(case hp=>exact fao))
|((with_reducible apply EvO.spd_yt);(case hp=>exact fao))
|((with_reducible apply EvO.spd_y) <;> intro hq)
|(with_reducible apply EvO.nilT)
|((with_reducible apply EvO.gf);(case hW=>exact rfl))
|((with_reducible apply EvO.gt0);(case hW=>exact rfl);(case hx=>first
|(exact oqF kN)
|exact opq))
|((with_reducible apply EvO.u0);(case hx=>first
|(exact oqF kst)
|exact opq))
|fail)
       all_goals first
        | exact ⟨q+1,rfl,rfl,⟨by omega,h2⟩,by omega⟩
        | (exfalso;apply hni;exact ⟨hs,by omega,by omega,by omega⟩)
      ·
       cases s <;>
       repeat' (first
|(with_reducible first|apply EvK.seq|apply EvK.block)
|((with_reducible apply EvK.text);(try case hm=>exact rfl))
|(with_reducible first|apply EvK.skip|apply thenK_n|apply blockK_n)
|((with_reducible apply EvK.cond_t);(case hc=>exact rfl))
|((with_reducible apply EvK.cond_f);(case hc=>exact rfl))
|((with_reducible apply EvO.spd_t);(case hp=>exact fao))
|((with_reducible apply EvO.spd_yf);(case hp=>exact fao))
|(with_reducible apply EvO.nilT)
|((with_reducible apply EvO.gf);(case hW=>exact rfl))
|((with_reducible apply EvO.gt0);(case hW=>exact rfl);(case hx=>exact opq))
|((with_reducible apply EvO.u0);(case hx=>first
|((with_reducible apply OpR.subw);(case hx|hy=>exact rfl))
|(exact oqF kst)
|exact opq))
|fail)
       all_goals exact ⟨q+1,rfl,rfl,⟨by omega,h2⟩,by omega⟩
     ·
      have hst:strictK t.kind=!s:=by cases s <;> simp_all
      rw [hst] at kst
      cases s <;>
      repeat' (first
|(with_reducible first|apply EvK.seq|apply EvK.block)
|((with_reducible apply EvK.text);(try case hm=>exact rfl))
|(with_reducible first|apply EvK.skip|apply thenK_n|apply blockK_n)
|((with_reducible apply EvK.cond_t);(case hc=>exact rfl))
|((with_reducible apply EvK.cond_f);(case hc=>exact rfl))
|((with_reducible apply EvO.spd_t);(case hp=>exact fao))
|(with_reducible apply EvO.nilT)
|((with_reducible apply EvO.gf);(case hW=>exact rfl))
|((with_reducible apply EvO.u0);(case hx=>first
|((with_reducible apply OpR.subw);(case hx|hy=>exact rfl))
|(exact oqF kst)
|exact opq))
|fail)
      all_goals exact ⟨q+1,rfl,rfl,⟨by omega,h2⟩,by omega⟩
   ·
    exact drv
  | some it=>
   obtain ⟨i,u⟩:=it
   have hiu:=tab_some hf
   show Cl cfg 153 _ [] _ _
   refine Cl.of_body rfl Tryz.func153 rfl rfl rfl ?_
   refine drvR ?_
   refine EvL.ind (fun q:Nat=>[(11,.t (.int .i64 (q:Int)))]) (fun q=>q≤L.length∧findG (inT S s c) q (L.drop q)=some (i,u)) (fun q=>L.length - q) 0 rfl ⟨by omega,hf⟩ (fun q hq=>?_)
   obtain ⟨h1,h2⟩:=hq
   rcases Nat.lt_or_ge q L.length with h3|h3
   ·
    obtain ⟨t,ht⟩:=get_of_lt h3
    have htc:=tbE_get ht
    have kN:=rnumber_c (S:=S) (C:=t.cols) hS (hC t (List.mem_of_getElem? ht))
    have kst:=rstrict_c t.kind
    obtain ⟨f0,f1⟩:=lay_first hv ht
    obtain ⟨c1,c2,c3⟩:=lay_cols hv ht
    have hbN:=numberS_bnd S t.cols
    rw [findG_hit ht] at h2
    obtain ⟨N,hN⟩:∃ N,numberS S t.cols=N:=⟨_,rfl⟩
    cases hi:inT S s c t with
    | true=>
     rw [hi,if_pos rfl] at h2
     obtain ⟨rfl,rfl⟩:q=i∧t=u:=by cases h2;exact ⟨rfl,rfl⟩
     have hyes:=inT_iff.1 hi
     rw [hN] at kN hyes hbN
     obtain ⟨y1,y2,y3,y4⟩:=hyes
     rw [y1] at kst
     have kt:=rnth_c (S:=S) (C:=t.cols) (K:=c - t.first) c2 c3 hS c1 y3 (by omega)
     cases s <;>
     exact drv
    | false=>
     rw [hi] at h2
     have hni:¬ (strictK t.kind=s∧0≤c∧0≤c - t.first∧c - t.first < numberS S t.cols):=fun h=>by rw [inT_iff.2 h] at hi;cases hi
     rw [hN] at kN hni
     by_cases hs:strictK t.kind=s
     ·
      rw [hs] at kst
      by_cases h0:0≤c
      ·
       cases s <;>
       repeat' (first
|(with_reducible first|apply EvK.seq|apply EvK.block)
|((with_reducible apply EvK.text);(try case hm=>exact rfl))
|(with_reducible first|apply EvK.skip|apply thenK_n|apply blockK_n)
|((with_reducible apply EvK.cond_t);(case hc=>exact rfl))
|((with_reducible apply EvK.cond_f);(case hc=>exact rfl))
|((with_reducible apply EvO.spd_t);(case hp=>exact fao))
|((with_reducible apply EvO.spd_yt);(case hp=>exact fao))
|((with_reducible apply EvO.spd_y) <;> intro hq)
|(with_reducible apply EvO.nilT)
|((with_reducible apply EvO.gf);(case hW=>exact rfl))
|((with_reducible apply EvO.gt0);(case hW=>exact rfl);(case hx=>first
|(exact oqF kN)
|exact opq))
|((with_reducible apply EvO.u0);(case hx=>first
|(exact oqF kst)
|exact opq))
|fail)
       all_goals first
        | exact ⟨q+1,rfl,rfl,⟨by omega,h2⟩,by omega⟩
        | (exfalso;apply hni;exact ⟨hs,by omega,by omega,by omega⟩)
      ·
       cases s <;>
       repeat' (first
|(with_reducible first|apply EvK.seq|apply EvK.block)
|((with_reducible apply EvK.text);(try case hm=>exact rfl))
|(with_reducible first|apply EvK.skip|apply thenK_n|apply blockK_n)
|((with_reducible apply EvK.cond_t);(case hc=>exact rfl))
|((with_reducible apply EvK.cond_f);(case hc=>exact rfl))
|((with_reducible apply EvO.spd_t);(case hp=>exact fao))
|((with_reducible apply EvO.spd_yf);(case hp=>exact fao))
|(with_reducible apply EvO.nilT)
|((with_reducible apply EvO.gf);(case hW=>exact rfl))
|((with_reducible apply EvO.gt0);(case hW=>exact rfl);(case hx=>exact opq))
|((with_reducible apply EvO.u0);(case hx=>first
|((with_reducible apply OpR.subw);(case hx|hy=>exact rfl))
|(exact oqF kst)
|exact opq))
|fail)
       all_goals exact ⟨q+1,rfl,rfl,⟨by omega,h2⟩,by omega⟩
     ·
      have hst:strictK t.kind=!s:=by cases s <;> simp_all
      rw [hst] at kst
      cases s <;>
      repeat' (first
|(with_reducible first|apply EvK.seq|apply EvK.block)
|((with_reducible apply EvK.text);(try case hm=>exact rfl))
|(with_reducible first|apply EvK.skip|apply thenK_n|apply blockK_n)
|((with_reducible apply EvK.cond_t);(case hc=>exact rfl))
|((with_reducible apply EvK.cond_f);(case hc=>exact rfl))
|((with_reducible apply EvO.spd_t);(case hp=>exact fao))
|(with_reducible apply EvO.nilT)
|((with_reducible apply EvO.gf);(case hW=>exact rfl))
|((with_reducible apply EvO.u0);(case hx=>first
|((with_reducible apply OpR.subw);(case hx|hy=>exact rfl))
|(exact oqF kst)
|exact opq))
|fail)
      all_goals exact ⟨q+1,rfl,rfl,⟨by omega,h2⟩,by omega⟩
   ·
    exfalso
    rw [findG_end h3] at h2
    cases h2
end Go.Proofs.YtcpgmmlaimkojaaGreatDoor
