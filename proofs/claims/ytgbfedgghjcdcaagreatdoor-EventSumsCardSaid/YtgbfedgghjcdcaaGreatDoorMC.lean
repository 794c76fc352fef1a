/- The reference's layouts,as contracts. No condition. -/
import Derived.Test.YtgbfedgghjcdcaaGreatDoorMB
import Derived.Test.YtgbfedgghjcdcaaGreatDoorMD
set_option linter.unusedSimpArgs false
set_option linter.unusedVariables false
set_option linter.unusedSectionVars false
namespace Go.Proofs.YtgbfedgghjcdcaaGreatDoor
open Go.RowKit
set_option maxRecDepth 100000
set_option maxHeartbeats 16000000
theorem rsound_c {S:List Int} (hl:S.length≤140737488351232):Cl cfg 139 [.t (intsA S)] [] (.t (.bool (soundB S))) []:=by
 refine Cl.of_body rfl Tryz.func139 rfl rfl rfl ?_
 repeat' (first
|(with_reducible first|apply EvK.seq|apply EvK.block)
|((with_reducible apply EvK.text);(try case hm=>exact rfl))
|(with_reducible apply EvO.nilT)
|((with_reducible apply EvO.u0);(case hx=>exact opq))
|fail)
 apply EvK.loopV
 case ho=>exact rfl
 case hp=>exact rfl
 case hl=>exact rfl
 case hs=>exact slt
 refine EvL.ind (fun q:Nat=>[(3,.t (.int .i64 (q:Int)))]) (fun q=>q≤S.length∧soundB S=soundB (S.drop q)) (fun q=>S.length - q) 0 rfl ⟨by omega,rfl⟩ (fun q hq=>?_)
 obtain ⟨h1,h2⟩:=hq
 rcases Nat.lt_or_ge q S.length with h3|h3
 ·
  obtain ⟨n,hn⟩:=get_of_lt h3
  have hc:=intsE_get hn
  have ha:soundB (S.drop q)=((decide (1≤n) && decide (n≤6)) && soundB (S.drop (q+1))):=all_hit _ hn
  rw [h2,ha]
  repeat' (first
|(with_reducible first|apply EvK.seq|apply EvK.block)
|((with_reducible apply EvK.text);(try case hm=>exact rfl))
|(with_reducible first|apply EvK.skip|apply EvK.ret|apply thenK_n|apply thenK_r|apply blockK_n|apply blockK_r)
|((with_reducible apply EvK.cond_t);(case hc=>exact rfl))
|((with_reducible apply EvK.cond_f);(case hc=>exact rfl))
|((with_reducible apply EvO.spd_t);(case hp=>exact fao))
|((with_reducible apply EvO.spd) <;> intro hq)
|((with_reducible apply EvO.spd_y) <;> intro hq)
|(with_reducible apply EvO.nilT)
|((with_reducible apply EvO.gf);(case hW=>exact rfl))
|((with_reducible apply EvO.gt0);(case hW=>exact rfl);(case hx=>exact opq))
|((with_reducible apply EvO.u0);(case hx=>exact opq))
|fail)
  all_goals first
   | exact fin_b (.inr rfl) rfl (by rw [decide_eq_false (show ¬ 1≤n by omega)];rfl)
   | exact fin_b (.inr rfl) rfl (by rw [decide_eq_false (show ¬ n≤6 by omega)];simp)
   | exact ⟨q+1,rfl,rfl,⟨by omega,by rw [decide_eq_true (show 1≤n by omega),decide_eq_true (show n≤6 by omega)];rfl⟩,by omega⟩
 ·
  have he:soundB (S.drop q)=true:=alle _ h3
  rw [h2,he]
  repeat' (first
|(with_reducible apply EvK.seq)
|((with_reducible apply EvK.text);(try case hm=>exact rfl))
|(with_reducible first|apply EvK.exit|apply EvK.ret|apply thenK_n|apply thenK_e|apply blockK_h)
|((with_reducible apply EvK.cond_f);(case hc=>exact rfl))
|((with_reducible apply EvO.spd_f);(case hp=>exact fao))
|(with_reducible apply EvO.nilT)
|((with_reducible apply EvO.u0);(case hx=>exact opq))
|fail)
  exact ⟨.inr rfl,rfl⟩
theorem rstrict_c (k:Int):Cl cfg 142 [.t (.int .i64 k)] [] (.t (.bool (strictK k))) []:=by
 refine Cl.of_body rfl Tryz.func142 rfl rfl rfl ?_
 repeat' (first
|(with_reducible apply EvK.seq)
|((with_reducible apply EvK.text);(try case hm=>exact rfl))
|(with_reducible apply EvK.ret)
|((with_reducible apply EvO.spd) <;> intro hq)
|((with_reducible apply EvO.spd_y) <;> intro hq)
|(with_reducible apply EvO.nilT)
|((with_reducible apply EvO.gf);(case hW=>exact rfl))
|((with_reducible apply EvO.gt0);(case hW=>exact rfl);(case hx=>exact opq))
|((with_reducible apply EvO.u0);(case hx=>exact opq))
|fail)
 all_goals (refine fin_b (.inr rfl) rfl ?_;unfold strictK;first|(simp_all;done)|(simp_all;omega))
theorem rnumber_c {S C:List Int} (hS:S.length≤140737488351232) (hC:C.length≤140737488351232):Cl cfg 140 [.t (intsA S),.t (intsA C)] [] (.t (.int .i64 (numberS S C))) []:=by
 refine Cl.of_body rfl Tryz.func140 rfl rfl rfl ?_
 have kS:=rsound_c hS
 have hlS:=intsE_len S
 by_cases h3:C.length≤3
 ·
  cases hs:soundB S with
  | false=>
   rw [hs] at kS
   have hn:numberS S C=0:=by unfold numberS;rw [if_neg (by simp [hs])]
   rw [hn]
   repeat' (first
|(with_reducible apply EvK.seq)
|((with_reducible apply EvK.text);(try case hm=>exact rfl))
|(with_reducible first|apply EvK.ret|apply thenK_r)
|((with_reducible apply EvK.cond_t);(case hc=>exact rfl))
|((with_reducible apply EvO.spd_f);(case hp=>exact fao))
|(with_reducible apply EvO.nilT)
|((with_reducible apply EvO.gt0);(case hW=>exact rfl);(case hx=>first
|(exact oqF kS)
|exact opq))
|((with_reducible apply EvO.u0);(case hx=>exact opq))
|fail)
   exact ⟨.inr rfl,rfl⟩
  | true=>
   rw [hs] at kS
   have hn:numberS S C=if C.all (colOk S)=true then prodC S C else 0:=by unfold numberS;simp [hs,h3]
   rw [hn]
   repeat' (first
|(with_reducible first|apply EvK.seq|apply EvK.block)
|((with_reducible apply EvK.text);(try case hm=>exact rfl))
|(with_reducible first|apply EvK.skip|apply thenK_n)
|((with_reducible apply EvK.cond_f);(case hc=>exact rfl))
|((with_reducible apply EvO.spd_f);(case hp=>exact fao))
|(with_reducible apply EvO.nilT)
|((with_reducible apply EvO.gt0);(case hW=>exact rfl);(case hx=>first
|(exact oqF kS)
|exact opq))
|((with_reducible apply EvO.u0);(case hx=>exact opq))
|fail)
   apply EvK.loopV
   case ho=>exact rfl
   case hp=>exact rfl
   case hl=>exact rfl
   case hs=>exact slt
   refine EvL.ind (fun q:Nat=>[(5,.t (.int .i64 (prodC S (C.take q)))),(6,.t (.int .i64 (q:Int)))]) (fun q=>q≤C.length∧(C.take q).all (colOk S)=true) (fun q=>C.length - q) 0 rfl ⟨by omega,by simp⟩ (fun q hq=>?_)
   obtain ⟨h1,h2⟩:=hq
   rcases Nat.lt_or_ge q C.length with h4|h4
   ·
    obtain ⟨c,hc'⟩:=get_of_lt h4
    have hc:=intsE_get hc'
    cases ho:colOk S c with
    | true=>
     have hb:=prodC_bnd hs (all_more h2 hc' ho) (by simp;omega)
     have hsn:=prodC_snoc (S:=S) hc'
     rw [hsn] at hb
     have ho':=ho
     simp only [colOk,Bool.and_eq_true,decide_eq_true_eq] at ho'
     obtain ⟨h0,h5⟩:=ho'
     obtain ⟨s,hs'⟩:=get_of_lt (xs:=S) (k:=c.toNat) (by omega)
     have hg:=intsE_get hs'
     rw [getD_get hs'] at hb hsn
     obtain ⟨p,hp⟩:∃ p,prodC S (C.take q)=p:=⟨_,rfl⟩
     rw [hp] at hb hsn ⊢
     repeat' (first
|(with_reducible first|apply EvK.seq|apply EvK.block)
|((with_reducible apply EvK.text);(try case hm=>exact rfl))
|(with_reducible first|apply EvK.skip|apply thenK_n)
|((with_reducible apply EvK.cond_t);(case hc=>exact rfl))
|((with_reducible apply EvK.cond_f);(case hc=>exact rfl))
|((with_reducible apply EvO.spd_t);(case hp=>exact fao))
|((with_reducible apply EvO.spd_f);(case hp=>exact fao))
|((with_reducible apply EvO.spd_yf);(case hp=>exact fao))
|(with_reducible first|apply EvO.nilT|apply EvO.nilB)
|((with_reducible apply EvO.gt0);(case hW=>exact rfl);(case hx=>exact opq))
|((with_reducible apply EvO.u0);(case hx=>first
|((with_reducible apply OpR.mul);(case hx|hy=>exact rfl);(case h=>omega))
|exact opq))
|fail)
     refine ⟨q+1,?_,rfl,⟨by omega,all_more h2 hc' ho⟩,by omega⟩
     rw [hsn];rfl
    | false=>
     have hno:¬ C.all (colOk S)=true:=fun h=>by
      have:=List.all_eq_true.1 h c (List.mem_of_getElem? hc')
      rw [ho] at this;cases this
     rw [if_neg hno]
     have ho':c < 0∨(S.length:Int)≤c:=by
      by_cases h:0≤c
      ·right
       simp only [colOk,decide_eq_true h,Bool.true_and,decide_eq_false_iff_not] at ho
       omega
      ·exact .inl (by omega)
     rcases ho' with ho'|ho'
     ·
      repeat' (first
|(with_reducible first|apply EvK.seq|apply EvK.block)
|((with_reducible apply EvK.text);(try case hm=>exact rfl))
|(with_reducible first|apply EvK.skip|apply EvK.ret|apply thenK_n|apply thenK_r|apply blockK_r)
|((with_reducible apply EvK.cond_t);(case hc=>exact rfl))
|((with_reducible apply EvO.spd_t);(case hp=>exact fao))
|(with_reducible apply EvO.nilT)
|((with_reducible apply EvO.gf);(case hW=>exact rfl))
|((with_reducible apply EvO.u0);(case hx=>exact opq))
|fail)
      exact ⟨.inr rfl,rfl⟩
     ·
      repeat' (first
|(with_reducible first|apply EvK.seq|apply EvK.block)
|((with_reducible apply EvK.text);(try case hm=>exact rfl))
|(with_reducible first|apply EvK.skip|apply EvK.ret|apply thenK_n|apply thenK_r|apply blockK_r)
|((with_reducible apply EvK.cond_t);(case hc=>exact rfl))
|((with_reducible apply EvO.spd_t);(case hp=>exact fao))
|((with_reducible apply EvO.spd_f);(case hp=>exact fao))
|((with_reducible apply EvO.spd_yt);(case hp=>exact fao))
|(with_reducible apply EvO.nilT)
|((with_reducible apply EvO.gt0);(case hW=>exact rfl);(case hx=>exact opq))
|((with_reducible apply EvO.u0);(case hx=>exact opq))
|fail)
      all_goals exact ⟨.inr rfl,rfl⟩
   ·
    have h5:=all_end h2 h4
    rw [if_pos h5,List.take_of_length_le h4]
    repeat' (first
|(with_reducible apply EvK.seq)
|((with_reducible apply EvK.text);(try case hm=>exact rfl))
|(with_reducible first|apply EvK.exit|apply EvK.ret|apply thenK_n|apply thenK_e|apply blockK_h)
|((with_reducible apply EvK.cond_f);(case hc=>exact rfl))
|((with_reducible apply EvO.spd_f);(case hp=>exact fao))
|(with_reducible apply EvO.nilT)
|((with_reducible apply EvO.u0);(case hx=>exact opq))
|fail)
    exact ⟨.inr rfl,rfl⟩
 ·
  have hn:numberS S C=0:=by unfold numberS;rw [if_neg (by simp [h3])]
  rw [hn]
  repeat' (first
|(with_reducible apply EvK.seq)
|((with_reducible apply EvK.text);(try case hm=>exact rfl))
|(with_reducible first|apply EvK.ret|apply thenK_r)
|((with_reducible apply EvK.cond_t);(case hc=>exact rfl))
|((with_reducible apply EvO.spd_t);(case hp=>exact fao))
|(with_reducible apply EvO.nilT)
|((with_reducible apply EvO.gf);(case hW=>exact rfl))
|((with_reducible apply EvO.u0);(case hx=>exact opq))
|fail)
  exact ⟨.inr rfl,rfl⟩
theorem layBF {S:List Int} {L:List Tb} (h:¬ ((S.length≤4∧soundB S=true)∧L.length≤12)):layB S L=false:=by
 rw [← Bool.not_eq_true]
 intro hl
 apply h
 simp only [layB,Bool.and_eq_true,decide_eq_true_eq] at hl
 exact ⟨⟨hl.1.1,hl.1.2.1⟩,hl.1.2.2⟩
def layR (S:List Int) (L:List Tb) (q:Nat):Bool:=allG (tabOk S L) q (L.drop q) && (decide (cntOf S true L≤128) && decide (cntOf S false L≤64))
theorem layR_0 {S:List Int} {L:List Tb} (h:(S.length≤4∧soundB S=true)∧L.length≤12):layB S L=layR S L 0:=by
 unfold layB layR allI
 simp [h.1.1,h.1.2,h.2]
theorem layR_hit {S:List Int} {L:List Tb} {q:Nat} {t:Tb} (h:L[q]?=some t):layR S L q=(tabOk S L q t && layR S L (q+1)):=by
 unfold layR
 rw [allG_hit h,Bool.and_assoc]
theorem layR_bad {S:List Int} {L:List Tb} {q:Nat} {t:Tb} (h:L[q]?=some t) (hb:¬ tabOk S L q t=true):layR S L q=false:=by
 rw [layR_hit h,Bool.not_eq_true _ |>.mp hb];rfl
theorem layR_ok {S:List Int} {L:List Tb} {q:Nat} {t:Tb} (h:L[q]?=some t) (hb:tabOk S L q t=true):layR S L q=layR S L (q+1):=by
 rw [layR_hit h,hb];rfl
theorem tabOk_iff {S:List Int} {L:List Tb} {q:Nat} {t:Tb}:tabOk S L q t=true↔((L.take q).any fun u=>decide (u.name=t.name))=false∧nmB t.name=true∧(0≤t.kind∧t.kind≤5)∧numberS S t.cols≠0∧((t.lo≤t.hi ∧ -9999≤t.lo∧t.hi≤9999)∧(¬ (t.kind=0∨t.kind=2∨t.kind=3)∨(t.lo=0∧t.hi=1)))∧t.first=cntOf S (strictK t.kind) (L.take q):=by
 unfold tabOk rngOk
 simp only [Bool.and_eq_true,Bool.or_eq_true,Bool.not_eq_true',decide_eq_true_eq,decide_eq_false_iff_not,Bool.or_eq_false_iff,not_or,ne_eq]
theorem rlay_c {S:List Int} {L:List Tb} (hS:S.length≤140737488351232) (hL:L.length≤140737488351232) (hC:∀ t∈L,t.cols.length≤140737488351232):Cl cfg 97 [.t (intsA S),.t (.arr (tbE L))] [] (.t (.bool (layB S L))) []:=by
 refine Cl.of_body rfl Tryz.func97 rfl rfl rfl ?_
 have kS:=rsound_c hS
 have hlS:=intsE_len S
 have hlL:=tbE_len L
 by_cases h0:(S.length≤4∧soundB S=true)∧L.length≤12
 ·
  rw [layR_0 h0]
  obtain ⟨⟨h4,hs⟩,h12⟩:=h0
  rw [hs] at kS
  repeat' (first
|(with_reducible first|apply EvK.seq|apply EvK.block)
|((with_reducible apply EvK.text);(try case hm=>exact rfl))
|(with_reducible first|apply EvK.skip|apply thenK_n)
|((with_reducible apply EvK.cond_f);(case hc=>exact rfl))
|((with_reducible apply EvO.spd_f);(case hp=>exact fao))
|((with_reducible apply EvO.spd_yf);(case hp=>exact fao))
|(with_reducible apply EvO.nilT)
|((with_reducible apply EvO.gt0);(case hW=>exact rfl);(case hx=>first
|(exact oqF kS)
|exact opq))
|((with_reducible apply EvO.u0);(case hx=>exact opq))
|fail)
  apply EvK.loopV
  case ho=>exact rfl
  case hp=>exact rfl
  case hl=>exact rfl
  case hs=>exact slt
  refine EvL.ind (fun q:Nat=>[(5,.t (.int .i64 (cntOf S true (L.take q)))),(6,.t (.int .i64 (cntOf S false (L.take q)))),(7,.t (.int .i64 (q:Int)))]) (fun q=>q≤L.length∧layR S L 0=layR S L q) (fun q=>L.length - q) 0 rfl ⟨by omega,rfl⟩ (fun q hq=>?_)
  obtain ⟨h1,h2⟩:=hq
  rw [h2]
  rcases Nat.lt_or_ge q L.length with h3|h3
  ·
   obtain ⟨t,ht⟩:=get_of_lt h3
   have hc:=tbE_get ht
   have kn:=rname_c t.name
   have kN:=rnumber_c (S:=S) (C:=t.cols) hS (hC t (List.mem_of_getElem? ht))
   have kst:=rstrict_c t.kind
   have hbad:=layR_bad (S:=S) ht
   have hok:=layR_ok (S:=S) ht
   rw [tabOk_iff] at hbad hok
   have hs1:=cnt_snoc (S:=S) true ht
   have hs0:=cnt_snoc (S:=S) false ht
   have hb1:=cnt_bnd (S:=S) true (L.take q)
   have hb0:=cnt_bnd (S:=S) false (L.take q)
   have hbN:=numberS_bnd S t.cols
   have hlq:(L.take q).length=q:=by simp;omega
   rw [hlq] at hb1 hb0
   obtain ⟨a,ha⟩:∃ a,cntOf S true (L.take q)=a:=⟨_,rfl⟩
   obtain ⟨b,hb⟩:∃ b,cntOf S false (L.take q)=b:=⟨_,rfl⟩
   obtain ⟨N,hN⟩:∃ N,numberS S t.cols=N:=⟨_,rfl⟩
   rw [ha] at hs1 hb1 ⊢
   rw [hb] at hs0 hb0 ⊢
   rw [hN] at hs1 hs0 hbN kN hbad hok
   repeat' (first
|(with_reducible first|apply EvK.seq|apply EvK.block)
|((with_reducible apply EvK.text);(try case hm=>exact rfl))
|(with_reducible first|apply EvK.skip|apply thenK_n)
|((with_reducible apply EvK.cond_t);(case hc=>exact rfl))
|((with_reducible apply EvO.spd_t);(case hp=>exact fao))
|(with_reducible apply EvO.nilT)
|((with_reducible apply EvO.u0);(case hx=>exact opq))
|fail)
   apply EvK.loopV
   case ho=>exact rfl
   case hp=>exact rfl
   case hl=>exact rfl
   case hs=>exact slt
   refine EvL.ind (fun k:Nat=>[(9,.t (.int .i64 (k:Int)))]) (fun k=>k≤q∧((L.take q).any fun u=>decide (u.name=t.name))=(((L.take q).drop k).any fun u=>decide (u.name=t.name))) (fun k=>q - k) 0 rfl ⟨by omega,rfl⟩ (fun k hk=>?_)
   obtain ⟨g1,g2⟩:=hk
   rcases Nat.lt_or_ge k q with g3|g3
   ·
    obtain ⟨u,hu⟩:=get_of_lt (xs:=L) (k:=k) (by omega)
    have hcu:=tbE_get hu
    have hu':(L.take q)[k]?=some u:=by rw [List.getElem?_take,if_pos g3,hu]
    have hh:=any_hit (fun u:Tb=>decide (u.name=t.name)) hu'
    by_cases he:u.name=t.name
    ·
     rw [decide_eq_true he,Bool.true_or] at hh
     rw [hbad (fun h=>by rw [g2,hh] at h;cases h.1)]
     repeat' (first
|(with_reducible first|apply EvK.seq|apply EvK.block)
|((with_reducible apply EvK.text);(try case hm=>exact rfl))
|((with_reducible apply EvK.drawn);(case hm=>exact rfl))
|(with_reducible first|apply EvK.skip|apply EvK.ret|apply thenK_n|apply thenK_r|apply blockK_r)
|((with_reducible apply EvK.cond_t);(case hc=>exact rfl))
|((with_reducible apply EvO.spd_t);(case hp=>exact fao))
|(with_reducible apply EvO.nilT)
|((with_reducible apply EvO.u0);(case hx=>exact opq))
|fail)
     exact ⟨.inr rfl,rfl⟩
    ·
     rw [decide_eq_false he,Bool.false_or] at hh
     repeat' (first
|(with_reducible first|apply EvK.seq|apply EvK.block)
|((with_reducible apply EvK.text);(try case hm=>exact rfl))
|((with_reducible apply EvK.drawn);(case hm=>exact rfl))
|(with_reducible first|apply EvK.skip|apply thenK_n|apply blockK_n)
|((with_reducible apply EvK.cond_t);(case hc=>exact rfl))
|((with_reducible apply EvK.cond_f);(case hc=>exact rfl))
|((with_reducible apply EvO.spd_t);(case hp=>exact fao))
|((with_reducible apply EvO.spd_f);(case hp=>exact fao))
|(with_reducible apply EvO.nilT)
|((with_reducible apply EvO.u0);(case hx=>exact opq))
|fail)
     exact ⟨k+1,rfl,rfl,⟨by omega,by rw [g2,hh]⟩,by omega⟩
   ·
    have hnone:((L.take q).any fun u=>decide (u.name=t.name))=false:=by rw [g2];exact any_end _ (by omega)
    obtain ⟨nb,hnb⟩:∃ nb,nmB t.name=nb:=⟨_,rfl⟩
    rw [hnb] at kn hbad hok
    cases nb with
    | false=>
     rw [hbad (fun h=>by cases h.2.1)]
     repeat' (first
|(with_reducible apply EvK.seq)
|((with_reducible apply EvK.text);(try case hm=>exact rfl))
|(with_reducible first|apply EvK.exit|apply EvK.ret|apply thenK_n|apply thenK_e|apply thenK_r|apply blockK_r|apply blockK_h)
|((with_reducible apply EvK.cond_t);(case hc=>exact rfl))
|((with_reducible apply EvK.cond_f);(case hc=>exact rfl))
|((with_reducible apply EvO.spd_f);(case hp=>exact fao))
|(with_reducible apply EvO.nilT)
|((with_reducible apply EvO.gf);(case hW=>exact rfl))
|((with_reducible apply EvO.u0);(case hx=>first
|(exact oqF kN)
|(exact oqF kn)
|exact opq))
|fail)
     exact ⟨.inr rfl,rfl⟩
    | true=>
     cases hst:strictK t.kind with
     | true=>
      rw [hst,ha] at hbad hok
      rw [hst] at kst
      rw [hst,if_pos rfl] at hs1
      rw [hst,if_neg (by decide)] at hs0
      repeat' (first
|(with_reducible apply EvK.seq)
|((with_reducible apply EvK.text);(try case hm=>exact rfl))
|(with_reducible first|apply EvK.skip|apply EvK.exit|apply EvK.ret|apply thenK_n|apply thenK_e|apply thenK_r|apply blockK_r|apply blockK_h)
|((with_reducible apply EvK.cond_t);(case hc=>exact rfl))
|((with_reducible apply EvK.cond_f);(case hc=>exact rfl))
|((with_reducible apply EvO.spd_f);(case hp=>exact fao))
|((with_reducible apply EvO.spd) <;> intro hq)
|((with_reducible apply EvO.spn) <;> intro hq)
|((with_reducible apply EvO.spd_y) <;> intro hq)
|((with_reducible apply EvO.spn_y) <;> intro hq)
|(with_reducible first|apply EvO.nilT|apply EvO.nilB)
|((with_reducible apply EvO.gf);(case hW=>exact rfl))
|((with_reducible apply EvO.gt0);(case hW=>exact rfl);(case hx=>exact opq))
|((with_reducible apply EvO.u0);(case hx=>first
|(exact oqF kN)
|(exact oqF kn)
|(exact oqF kst)
|exact opq))
|fail)
      all_goals first
       | exact fin_b (.inr rfl) rfl (Eq.symm (hbad (fun h=>by obtain ⟨_,_,_,_,_,_⟩:=h;omega)))
       | (refine ⟨q+1,?_,rfl,⟨by omega,hok ⟨hnone,rfl,by omega,by omega,by omega,by omega⟩⟩,by omega⟩;rw [hs1,hs0];rfl)
     | false=>
      rw [hst,hb] at hbad hok
      rw [hst] at kst
      rw [hst,if_neg (by decide)] at hs1
      rw [hst,if_pos rfl] at hs0
      repeat' (first
|(with_reducible apply EvK.seq)
|((with_reducible apply EvK.text);(try case hm=>exact rfl))
|(with_reducible first|apply EvK.skip|apply EvK.exit|apply EvK.ret|apply thenK_n|apply thenK_e|apply thenK_r|apply blockK_r|apply blockK_h)
|((with_reducible apply EvK.cond_t);(case hc=>exact rfl))
|((with_reducible apply EvK.cond_f);(case hc=>exact rfl))
|((with_reducible apply EvO.spd_f);(case hp=>exact fao))
|((with_reducible apply EvO.spd) <;> intro hq)
|((with_reducible apply EvO.spn) <;> intro hq)
|((with_reducible apply EvO.spd_y) <;> intro hq)
|((with_reducible apply EvO.spn_y) <;> intro hq)
|(with_reducible first|apply EvO.nilT|apply EvO.nilB)
|((with_reducible apply EvO.gf);(case hW=>exact rfl))
|((with_reducible apply EvO.gt0);(case hW=>exact rfl);(case hx=>exact opq))
|((with_reducible apply EvO.u0);(case hx=>first
|(exact oqF kN)
|(exact oqF kn)
|(exact oqF kst)
|exact opq))
|fail)
      all_goals first
       | exact fin_b (.inr rfl) rfl (Eq.symm (hbad (fun h=>by obtain ⟨_,_,_,_,_,_⟩:=h;omega)))
       | (refine ⟨q+1,?_,rfl,⟨by omega,hok ⟨hnone,rfl,by omega,by omega,by omega,by omega⟩⟩,by omega⟩;rw [hs1,hs0];rfl)
  ·
   have he:layR S L q=(decide (cntOf S true L≤128) && decide (cntOf S false L≤64)):=by
    unfold layR;rw [allG_end h3];rfl
   rw [he,List.take_of_length_le h3]
   repeat' (first
|(with_reducible apply EvK.seq)
|((with_reducible apply EvK.text);(try case hm=>exact rfl))
|(with_reducible first|apply EvK.exit|apply EvK.ret|apply thenK_n|apply thenK_e|apply blockK_h)
|((with_reducible apply EvK.cond_f);(case hc=>exact rfl))
|((with_reducible apply EvO.spd_f);(case hp=>exact fao))
|((with_reducible apply EvO.spd) <;> intro hq)
|((with_reducible apply EvO.spd_y) <;> intro hq)
|(with_reducible apply EvO.nilT)
|((with_reducible apply EvO.gf);(case hW=>exact rfl))
|((with_reducible apply EvO.gt0);(case hW=>exact rfl);(case hx=>exact opq))
|((with_reducible apply EvO.u0);(case hx=>exact opq))
|fail)
   all_goals (refine fin_b (.inr rfl) rfl ?_;simp;omega)
 ·
  rw [layBF h0]
  cases hs:soundB S with
  | true=>
   rw [hs] at kS
   have h0':¬ (S.length≤4∧L.length≤12):=fun h=>h0 ⟨⟨h.1,hs⟩,h.2⟩
   repeat' (first
|(with_reducible apply EvK.seq)
|((with_reducible apply EvK.text);(try case hm=>exact rfl))
|(with_reducible first|apply EvK.ret|apply thenK_r)
|((with_reducible apply EvK.cond_t);(case hc=>exact rfl))
|((with_reducible apply EvO.spd) <;> intro hq)
|((with_reducible apply EvO.spd_yt);(case hp=>exact fao))
|(with_reducible apply EvO.nilT)
|((with_reducible apply EvO.gf);(case hW=>exact rfl))
|((with_reducible apply EvO.gt0);(case hW=>exact rfl);(case hx=>first
|(exact oqF kS)
|exact opq))
|((with_reducible apply EvO.u0);(case hx=>exact opq))
|fail)
   all_goals first
    | exact ⟨.inr rfl,rfl⟩
    | (exfalso;omega)
  | false=>
   rw [hs] at kS
   repeat' (first
|(with_reducible apply EvK.seq)
|((with_reducible apply EvK.text);(try case hm=>exact rfl))
|(with_reducible first|apply EvK.ret|apply thenK_r)
|((with_reducible apply EvK.cond_t);(case hc=>exact rfl))
|((with_reducible apply EvO.spd) <;> intro hq)
|(with_reducible apply EvO.nilT)
|((with_reducible apply EvO.gf);(case hW=>exact rfl))
|((with_reducible apply EvO.gt0);(case hW=>exact rfl);(case hx=>first
|(exact oqF kS)
|exact opq))
|((with_reducible apply EvO.u0);(case hx=>exact opq))
|fail)
   all_goals exact ⟨.inr rfl,rfl⟩
end Go.Proofs.YtgbfedgghjcdcaaGreatDoor
