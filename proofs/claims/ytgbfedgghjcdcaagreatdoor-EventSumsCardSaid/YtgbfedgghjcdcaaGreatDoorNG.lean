/- The reference's models,part by part,as contracts: constraints. No condition. -/
import Derived.Test.YtgbfedgghjcdcaaGreatDoorND
set_option linter.unusedSimpArgs false
set_option linter.unusedVariables false
set_option linter.unusedSectionVars false
namespace Go.Proofs.YtgbfedgghjcdcaaGreatDoor
open Go.RowKit
set_option maxRecDepth 100000
set_option maxHeartbeats 16000000
theorem el5:elemT cfg.P 175=some (67,2):=by kernel_rfl
theorem conOk_iff {m:Md} {n i:Nat} {c:Cn}:conOk m n i c=true↔0≤c.fam∧c.fam < m.fams.length∧((c.kind=0∧c.first=0∧c.size=0∧rowB n c.row=true)∨(2 * n≤i∧c.kind=1∧graphB m c=true)):=by
 unfold conOk
 simp only [Bool.and_eq_true,Bool.or_eq_true,decide_eq_true_eq,and_assoc]
theorem pairOk_iff {cs:List Cn} {i:Nat} {r:Int×Int} {A B:Cn} (hA:cs[2 * i]?=some A) (hB:cs[2 * i+1]?=some B):pairOk cs i r=(decide (A.row=rowLo i r) && decide (B.row=rowHi i r)):=by
 unfold pairOk
 rw [List.getD_eq_getElem?_getD,List.getD_eq_getElem?_getD,hA,hB]
 rfl
theorem rcons_c {m:Md} (hm:MdL m) (hv:layB m.sorts m.tables=true):Cl cfg 99 [.t (mdA m)] [] (.t (.bool (consB m (rngs m.sorts m.tables true)))) []:=by
 have hlC:=cnE_len m.cons
 have hlN:=nmE_len m.fams
 have hmc:=hm.cons
 have hmt:=hm.terms
 have hmf:=hm.fams
 have ks:=rmstr_c hm
 have kg:=fun (c:Cn) (hc:c∈m.cons)=>rgraph_c (c:=c) hm hv (by have:=hmt c hc;omega)
 have hR:=rngs_len m.sorts m.tables true
 have hRb:=fun (r:Int×Int) (hr:r∈rngs m.sorts m.tables true)=>rngs_bnd hr
 obtain ⟨R,hRR⟩:∃ R,rngs m.sorts m.tables true=R:=⟨_,rfl⟩
 rw [hRR] at ks hR hRb ⊢
 have hlR:=rgE_len R
 rw [mdA_eq] at ks kg ⊢
 refine Cl.of_body rfl Tryz.func99 rfl rfl rfl ?_
 by_cases h0:2 * R.length≤m.cons.length∧m.cons.length≤512
 ·
  obtain ⟨h01,h02⟩:=h0
  obtain ⟨Y,hY⟩:∃ Y,allI (conOk m R.length) m.cons=Y:=⟨_,rfl⟩
  have e0:consB m R=(allG (pairOk m.cons) 0 (R.drop 0) && Y):=by
   unfold consB
   rw [decide_eq_true h01,decide_eq_true h02,hY]
   rfl
  rw [e0]
  repeat' (first
|(with_reducible first|apply EvK.seq|apply EvK.block)
|((with_reducible apply EvK.text);(try case hm=>exact rfl))
|(with_reducible first|apply EvK.skip|apply thenK_n)
|((with_reducible apply EvK.cond_f);(case hc=>exact rfl))
|((with_reducible apply EvO.spd_f);(case hp=>exact fao))
|((with_reducible apply EvO.spd_yf);(case hp=>exact fao))
|(with_reducible apply EvO.nilT)
|((with_reducible apply EvO.gt0);(case hW=>exact rfl);(case hx=>exact opq))
|((with_reducible apply EvO.u0);(case hx=>first
|((with_reducible apply OpR.mul);(case hx|hy=>exact rfl);(case h=>omega))
|(exact oqX ks)
|exact opq))
|fail)
  apply EvK.loopV
  case ho=>exact rfl
  case hp=>exact rfl
  case hl=>exact rfl
  case hs=>exact slt
  refine EvL.indF (fun q:Nat=>[(4,.t (.int .i64 (q:Int)))]) (fun _=>[.box false 30 ((mdC m).map .t),.row false false 2 (rgE R)]) (fun q=>q≤R.length∧allG (pairOk m.cons) 0 (R.drop 0)=allG (pairOk m.cons) q (R.drop q)) (fun q=>R.length - q) 0 rfl rfl ⟨by omega,rfl⟩ (fun q hq=>?_)
  obtain ⟨h1,h2⟩:=hq
  rw [h2]
  rcases Nat.lt_or_ge q R.length with h3|h3
  ·
   obtain ⟨r,hr⟩:=get_of_lt h3
   have hrc:=rgE_get hr
   obtain ⟨b1,b2,b3⟩:=hRb r (List.mem_of_getElem? hr)
   obtain ⟨A,hA⟩:=get_of_lt (xs:=m.cons) (k:=2 * q) (by omega)
   obtain ⟨B,hB⟩:=get_of_lt (xs:=m.cons) (k:=2 * q+1) (by omega)
   have hAc:=cnE_get hA
   have hBc:=cnE_get hB
   rw [show 2 * q=(2 * (q:Int)).toNat by omega] at hAc
   rw [show 2 * q+1=(2 * (q:Int)+1).toNat by omega] at hBc
   have hpk:=pairOk_iff (r:=r) hA hB
   have hbad:=allG_bad (p:=pairOk m.cons) hr
   have hok:=allG_ok (p:=pairOk m.cons) hr
   rw [hpk] at hbad hok
   have eLo:rowLo q r=⟨[⟨(q:Int),-1⟩],0 - r.1⟩:=by unfold rowLo;rw [Int.zero_sub]
   have eHi:rowHi q r=⟨[⟨(q:Int),1⟩],r.2⟩:=rfl
   rw [eLo,eHi] at hbad hok
   have k1:=rsame_c (A:=A.row) (B:=⟨[⟨(q:Int),-1⟩],0 - r.1⟩) (by have:=hmt A (List.mem_of_getElem? hA);omega) (by simp)
   have k2:=rsame_c (A:=B.row) (B:=⟨[⟨(q:Int),1⟩],r.2⟩) (by have:=hmt B (List.mem_of_getElem? hB);omega) (by simp)
   obtain ⟨p1,hp1⟩:∃ p,decide (A.row=⟨[⟨(q:Int),-1⟩],0 - r.1⟩)=p:=⟨_,rfl⟩
   obtain ⟨p2,hp2⟩:∃ p,decide (B.row=⟨[⟨(q:Int),1⟩],r.2⟩)=p:=⟨_,rfl⟩
   rw [hp1] at k1 hbad hok
   rw [hp2] at k2 hbad hok
   cases p1 with
   | false=>
    rw [hbad (by simp),Bool.false_and]
    repeat' (first
|(with_reducible first|apply EvK.seq|apply EvK.block)
|((with_reducible apply EvK.text);(try case hm=>exact rfl))
|((with_reducible apply EvK.drawn);(case hm=>exact rfl))
|(with_reducible first|apply EvK.skip|apply EvK.ret|apply thenK_n|apply thenK_r|apply blockK_r)
|((with_reducible apply EvK.cond_t);(case hc=>exact rfl))
|((with_reducible apply EvO.spd_t);(case hp=>exact fao))
|(with_reducible apply EvO.nilT)
|((with_reducible apply EvO.gf);(case hW=>exact rfl))
|((with_reducible apply EvO.u0);(case hx=>first
|((with_reducible apply OpR.negr);(case hx=>exact rfl);(case h=>omega))
|((with_reducible apply OpR.mul);(case hx|hy=>exact rfl);(case h=>omega))
|(exact oqF k1)
|exact opq))
|fail)
    exact ⟨.inr rfl,rfl⟩
   | true=>
    cases p2 with
    | false=>
     rw [hbad (by simp),Bool.false_and]
     repeat' (first
|(with_reducible first|apply EvK.seq|apply EvK.block)
|((with_reducible apply EvK.text);(try case hm=>exact rfl))
|((with_reducible apply EvK.drawn);(case hm=>exact rfl))
|(with_reducible first|apply EvK.skip|apply EvK.ret|apply thenK_n|apply thenK_r|apply blockK_r)
|((with_reducible apply EvK.cond_t);(case hc=>exact rfl))
|((with_reducible apply EvO.spd_t);(case hp=>exact fao))
|(with_reducible apply EvO.nilT)
|((with_reducible apply EvO.gt0);(case hW=>exact rfl);(case hx=>first
|((with_reducible apply OpR.mul);(case hx|hy=>exact rfl);(case h=>omega))
|(exact oqF k2)
|exact opq))
|((with_reducible apply EvO.u0);(case hx=>first
|((with_reducible apply OpR.negr);(case hx=>exact rfl);(case h=>omega))
|((with_reducible apply OpR.mul);(case hx|hy=>exact rfl);(case h=>omega))
|(exact oqF k1)
|exact opq))
|fail)
     exact ⟨.inr rfl,rfl⟩
    | true=>
     repeat' (first
|(with_reducible first|apply EvK.seq|apply EvK.block)
|((with_reducible apply EvK.text);(try case hm=>exact rfl))
|((with_reducible apply EvK.drawn);(case hm=>exact rfl))
|(with_reducible first|apply EvK.skip|apply thenK_n|apply blockK_n)
|((with_reducible apply EvK.cond_t);(case hc=>exact rfl))
|((with_reducible apply EvK.cond_f);(case hc=>exact rfl))
|((with_reducible apply EvO.spd_t);(case hp=>exact fao))
|(with_reducible apply EvO.nilT)
|((with_reducible apply EvO.gt0);(case hW=>exact rfl);(case hx=>first
|((with_reducible apply OpR.mul);(case hx|hy=>exact rfl);(case h=>omega))
|(exact oqF k2)
|exact opq))
|((with_reducible apply EvO.u0);(case hx=>first
|((with_reducible apply OpR.negr);(case hx=>exact rfl);(case h=>omega))
|((with_reducible apply OpR.mul);(case hx|hy=>exact rfl);(case h=>omega))
|(exact oqF k1)
|exact opq))
|fail)
     exact ⟨q+1,rfl,rfl,⟨by omega,hok rfl⟩,by omega⟩
  ·
   rw [allG_end h3,Bool.true_and,← hY]
   have e1:allI (conOk m R.length) m.cons=allG (conOk m R.length) 0 (m.cons.drop 0):=rfl
   rw [e1]
   repeat' (first
|(with_reducible first|apply EvK.seq|apply EvK.block)
|((with_reducible apply EvK.text);(try case hm=>exact rfl))
|(with_reducible first|apply EvK.exit|apply thenK_n|apply thenK_e|apply blockK_h)
|((with_reducible apply EvK.cond_f);(case hc=>exact rfl))
|((with_reducible apply EvO.spd_f);(case hp=>exact fao))
|(with_reducible apply EvO.nilT)
|((with_reducible apply EvO.u0);(case hx=>exact opq))
|fail)
   apply EvK.loopV
   case ho=>exact rfl
   case hp=>exact rfl
   case hl=>exact rfl
   case hs=>exact slt
   refine EvL.indF (fun q:Nat=>[(7,.t (.int .i64 (q:Int)))]) (fun _=>[.box false 30 ((mdC m).map .t),.row false false 2 (rgE R)]) (fun q=>q≤m.cons.length∧allG (conOk m R.length) 0 (m.cons.drop 0)=allG (conOk m R.length) q (m.cons.drop q)) (fun q=>m.cons.length - q) 0 rfl rfl ⟨by omega,rfl⟩ (fun q hq=>?_)
   obtain ⟨g1,g2⟩:=hq
   rw [g2]
   rcases Nat.lt_or_ge q m.cons.length with g3|g3
   ·
    obtain ⟨c,hc⟩:=get_of_lt g3
    have hcc:=cnE_get hc
    have hmem:=List.mem_of_getElem? hc
    have kr:=rrow_c (n:=(R.length:Int)) (r:=c.row) (by have:=hmt c hmem;omega)
    have kgc:=kg c hmem
    have hbad:=allG_bad (p:=conOk m R.length) hc
    have hok:=allG_ok (p:=conOk m R.length) hc
    rw [conOk_iff] at hbad hok
    obtain ⟨p1,hp1⟩:∃ p,rowB R.length c.row=p:=⟨_,rfl⟩
    obtain ⟨p2,hp2⟩:∃ p,graphB m c=p:=⟨_,rfl⟩
    rw [hp1] at kr hbad hok
    rw [hp2] at kgc hbad hok
    cases p1 <;> cases p2 <;> simp only [and_true,Bool.false_eq_true,and_false,or_false,false_or] at hbad hok
    all_goals
     repeat' (first
|(with_reducible first|apply EvK.seq|apply EvK.block)
|((with_reducible apply EvK.text);(try case hm=>exact rfl))
|(with_reducible first|apply EvK.skip|apply EvK.ret|apply thenK_n|apply thenK_r|apply blockK_n|apply blockK_r)
|((with_reducible apply EvK.cond_t);(case hc=>exact rfl))
|((with_reducible apply EvK.cond_f);(case hc=>exact rfl))
|((with_reducible apply EvO.spd_t);(case hp=>exact fao))
|((with_reducible apply EvO.spd) <;> intro hq)
|((with_reducible apply EvO.spd_yf);(case hp=>exact fao))
|((with_reducible apply EvO.spd_y) <;> intro hq)
|(with_reducible apply EvO.nilT)
|((with_reducible apply EvO.gf);(case hW=>exact rfl))
|((with_reducible apply EvO.gt0);(case hW=>exact rfl);(case hx=>first
|((with_reducible apply OpR.mul);(case hx|hy=>exact rfl);(case h=>omega))
|(exact oqF kr)
|(exact oqF kgc)
|exact opq))
|((with_reducible apply EvO.u0);(case hx=>exact opq))
|fail)
     all_goals first
      | exact fin_b (.inr rfl) rfl (by rw [hbad (by first|omega|(intro h;exact h))])
      | exact ⟨q+1,rfl,rfl,⟨by omega,hok (by omega)⟩,by omega⟩
   ·
    rw [allG_end g3]
    repeat' (first
|(with_reducible apply EvK.seq)
|((with_reducible apply EvK.text);(try case hm=>exact rfl))
|(with_reducible first|apply EvK.exit|apply EvK.ret|apply thenK_n|apply thenK_e|apply blockK_h)
|((with_reducible apply EvK.cond_f);(case hc=>exact rfl))
|((with_reducible apply EvO.spd_f);(case hp=>exact fao))
|(with_reducible apply EvO.nilT)
|((with_reducible apply EvO.u0);(case hx=>exact opq))
|fail)
    exact ⟨.inr rfl,rfl⟩
 ·
  have e0:consB m R=false:=by
   rw [← Bool.not_eq_true]
   unfold consB
   simp only [Bool.and_eq_true,decide_eq_true_eq]
   exact fun h=>h0 h.1
  rw [e0]
  repeat' (first
|(with_reducible apply EvK.seq)
|((with_reducible apply EvK.text);(try case hm=>exact rfl))
|(with_reducible first|apply EvK.ret|apply thenK_r)
|((with_reducible apply EvK.cond_t);(case hc=>exact rfl))
|((with_reducible apply EvO.spd) <;> intro hq)
|((with_reducible apply EvO.spd_yt);(case hp=>exact fao))
|(with_reducible apply EvO.nilT)
|((with_reducible apply EvO.gf);(case hW=>exact rfl))
|((with_reducible apply EvO.gt0);(case hW=>exact rfl);(case hx=>exact opq))
|((with_reducible apply EvO.u0);(case hx=>first
|((with_reducible apply OpR.mul);(case hx|hy=>exact rfl);(case h=>omega))
|(exact oqX ks)
|exact opq))
|fail)
  all_goals first
   | exact ⟨.inr rfl,rfl⟩
   | (exfalso;omega)
end Go.Proofs.YtgbfedgghjcdcaaGreatDoor
