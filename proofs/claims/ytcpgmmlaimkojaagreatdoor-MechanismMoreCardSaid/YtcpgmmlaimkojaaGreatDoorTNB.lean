/- The reference's models,part by part,as contracts: constraints. No condition. -/
import Derived.Test.YtcpgmmlaimkojaaGreatDoorTNC
set_option linter.unusedSimpArgs false
set_option linter.unusedVariables false
set_option linter.unusedSectionVars false
namespace Go.Proofs.YtcpgmmlaimkojaaGreatDoor
open Go.RowKit
set_option maxRecDepth 100000
set_option maxHeartbeats 16000000
theorem el5:elemT cfg.P 119=some (125,2):=by kernel_rfl
theorem conOk_iff {m:Md} {n i:Nat} {c:Cn}:conOk m n i c=true↔0≤c.fam∧c.fam < m.fams.length∧((c.kind=0∧c.first=0∧c.size=0∧rowB n c.row=true)∨(2 * n≤i∧c.kind=1∧graphB m c=true)):=by
 unfold conOk
 simp only [Bool.and_eq_true,Bool.or_eq_true,decide_eq_true_eq,and_assoc]
theorem pairOk_iff {cs:List Cn} {i:Nat} {r:Int×Int} {A B:Cn} (hA:cs[2 * i]?=some A) (hB:cs[2 * i+1]?=some B):pairOk cs i r=(decide (A.row=rowLo i r) && decide (B.row=rowHi i r)):=by
 unfold pairOk
 rw [List.getD_eq_getElem?_getD,List.getD_eq_getElem?_getD,hA,hB]
 rfl
theorem rcons_c {m:Md} (hm:MdL m) (hv:layB m.sorts m.tables=true):Cl cfg 98 [.t (mdA m)] [] (.t (.bool (consB m (rngs m.sorts m.tables true)))) []:=by
 have hlC:=cnE_len m.cons
 have hlN:=nmE_len m.fams
 have hmc:=hm.cons
 have hmt:=hm.terms
 have hmf:=hm.fams
 have ks:=rmstr_c hm
 have kg:=fun (c:Cn) (hc:c∈m.cons)=>rgraph_c (c:=c) hm hv (by have:=hmt c hc;omega)
 have hR:=rngs_len m.sorts m.tables true
 have hRb:=fun (r:Int×Int) (hr:r∈rngs m.sorts m.tables true)=>rngs_bnd hr
 obtain ⟨R,hRR⟩:∃ R,rngs m.sorts m.tables true=R:=⟨_,rfl⟩
 rw [hRR] at ks hR hRb ⊢
 have hlR:=rgE_len R
 rw [mdA_eq] at ks kg ⊢
 refine Cl.of_body rfl Tryz.func98 rfl rfl rfl ?_
 by_cases h0:2 * R.length≤m.cons.length∧m.cons.length≤512
 ·
  obtain ⟨h01,h02⟩:=h0
  obtain ⟨Y,hY⟩:∃ Y,allI (conOk m R.length) m.cons=Y:=⟨_,rfl⟩
  have e0:consB m R=(allG (pairOk m.cons) 0 (R.drop 0) && Y):=by
   unfold consB
   rw [decide_eq_true h01,decide_eq_true h02,hY]
   rfl
  rw [e0]
  refine drvR ?_
  refine EvL.indF (fun q:Nat=>[(4,.t (.int .i64 (q:Int)))]) (fun _=>[.box false 30 ((mdC m).map .t),.row false false 2 (rgE R)]) (fun q=>q≤R.length∧allG (pairOk m.cons) 0 (R.drop 0)=allG (pairOk m.cons) q (R.drop q)) (fun q=>R.length - q) 0 rfl rfl ⟨by omega,rfl⟩ (fun q hq=>?_)
  obtain ⟨h1,h2⟩:=hq
  rw [h2]
  rcases Nat.lt_or_ge q R.length with h3|h3
  ·
   obtain ⟨r,hr⟩:=get_of_lt h3
   have hrc:=rgE_get hr
   obtain ⟨b1,b2,b3⟩:=hRb r (List.mem_of_getElem? hr)
   obtain ⟨A,hA⟩:=get_of_lt (xs:=m.cons) (k:=2 * q) (by omega)
   obtain ⟨B,hB⟩:=get_of_lt (xs:=m.cons) (k:=2 * q+1) (by omega)
   have hAc:=cnE_get hA
   have hBc:=cnE_get hB
   rw [show 2 * q=(2 * (q:Int)).toNat by omega] at hAc
   rw [show 2 * q+1=(2 * (q:Int)+1).toNat by omega] at hBc
   have hpk:=pairOk_iff (r:=r) hA hB
   have hbad:=allG_bad (p:=pairOk m.cons) hr
   have hok:=allG_ok (p:=pairOk m.cons) hr
   rw [hpk] at hbad hok
   have eLo:rowLo q r=⟨[⟨(q:Int),-1⟩],0 - r.1⟩:=by unfold rowLo;rw [Int.zero_sub]
   have eHi:rowHi q r=⟨[⟨(q:Int),1⟩],r.2⟩:=rfl
   rw [eLo,eHi] at hbad hok
   have k1:=rsame_c (A:=A.row) (B:=⟨[⟨(q:Int),-1⟩],0 - r.1⟩) (by have:=hmt A (List.mem_of_getElem? hA);omega) (by simp)
   have k2:=rsame_c (A:=B.row) (B:=⟨[⟨(q:Int),1⟩],r.2⟩) (by have:=hmt B (List.mem_of_getElem? hB);omega) (by simp)
   obtain ⟨p1,hp1⟩:∃ p,decide (A.row=⟨[⟨(q:Int),-1⟩],0 - r.1⟩)=p:=⟨_,rfl⟩
   obtain ⟨p2,hp2⟩:∃ p,decide (B.row=⟨[⟨(q:Int),1⟩],r.2⟩)=p:=⟨_,rfl⟩
   rw [hp1] at k1 hbad hok
   rw [hp2] at k2 hbad hok
   cases p1 with
   | false=>
    rw [hbad (by simp),Bool.false_and]
    repeat' (first
|(with_reducible first|apply EvK.seq|apply EvK.block)
|((with_reducible apply EvK.text);(try case hm=>exact rfl))
|((with_reducible apply EvK.drawn);(case hm=>exact rfl))
|(with_reducible first|apply EvK.skip|apply EvK.ret|apply thenK_n|apply thenK_r|apply blockK_r)
|((with_reducible apply EvK.cond_t);(case hc=>exact rfl))
|((with_reducible apply EvO.spd_t);(case hp=>exact fao))
|(with_reducible apply EvO.nilT)
|((with_reducible apply EvO.gf);(case hW=>exact rfl))
|((with_reducible apply EvO.u0);(case hx=>first
|((with_reducible apply OpR.negr);(case hx=>exact rfl);(case h=>omega))
|((with_reducible apply OpR.mul);(case hx|hy=>exact rfl);(case h=>omega))
|(exact oqF k1)
|exact opq))
|fail)
    exact ⟨.inr rfl,rfl⟩
   | true=>
    cases p2 with
    | false=>
     rw [hbad (by simp),Bool.false_and]
     repeat' (first
|(with_reducible first|apply EvK.seq|apply EvK.block)
|((with_reducible apply EvK.text);(try case hm=>exact rfl))
|((with_reducible apply EvK.drawn);(case hm=>exact rfl))
|(with_reducible first|apply EvK.skip|apply EvK.ret|apply thenK_n|apply thenK_r|apply blockK_r)
|((with_reducible apply EvK.cond_t);(case hc=>exact rfl))
|((with_reducible apply EvO.spd_t);(case hp=>exact fao))
|(with_reducible apply EvO.nilT)
|((with_reducible apply EvO.gt0);(case hW=>exact rfl);(case hx=>first
|((with_reducible apply OpR.mul);(case hx|hy=>exact rfl);(case h=>omega))
|(exact oqF k2)
|exact opq))
|((with_reducible apply EvO.u0);(case hx=>first
|((with_reducible apply OpR.negr);(case hx=>exact rfl);(case h=>omega))
|((with_reducible apply OpR.mul);(case hx|hy=>exact rfl);(case h=>omega))
|(exact oqF k1)
|exact opq))
|fail)
     exact ⟨.inr rfl,rfl⟩
    | true=>
     repeat' (first
|(with_reducible first|apply EvK.seq|apply EvK.block)
|((with_reducible apply EvK.text);(try case hm=>exact rfl))
|((with_reducible apply EvK.drawn);(case hm=>exact rfl))
|(with_reducible first|apply EvK.skip|apply thenK_n|apply blockK_n)
|((with_reducible apply EvK.cond_t);(case hc=>exact rfl))
|((with_reducible apply EvK.cond_f);(case hc=>exact rfl))
|((with_reducible apply EvO.spd_t);(case hp=>exact fao))
|(with_reducible apply EvO.nilT)
|((with_reducible apply EvO.gt0);(case hW=>exact rfl);(case hx=>first
|((with_reducible apply OpR.mul);(case hx|hy=>exact rfl);(case h=>omega))
|(exact oqF k2)
|exact opq))
|((with_reducible apply EvO.u0);(case hx=>first
|((with_reducible apply OpR.negr);(case hx=>exact rfl);(case h=>omega))
|((with_reducible apply OpR.mul);(case hx|hy=>exact rfl);(case h=>omega))
|(exact oqF k1)
|exact opq))
|fail)
     exact ⟨q+1,rfl,rfl,⟨by omega,hok rfl⟩,by omega⟩
  ·
   rw [allG_end h3,Bool.true_and,← hY]
   have e1:allI (conOk m R.length) m.cons=allG (conOk m R.length) 0 (m.cons.drop 0):=rfl
   rw [e1]
   refine drvR ?_
   refine EvL.indF (fun q:Nat=>[(7,.t (.int .i64 (q:Int)))]) (fun _=>[.box false 30 ((mdC m).map .t),.row false false 2 (rgE R)]) (fun q=>q≤m.cons.length∧allG (conOk m R.length) 0 (m.cons.drop 0)=allG (conOk m R.length) q (m.cons.drop q)) (fun q=>m.cons.length - q) 0 rfl rfl ⟨by omega,rfl⟩ (fun q hq=>?_)
   obtain ⟨g1,g2⟩:=hq
   rw [g2]
   rcases Nat.lt_or_ge q m.cons.length with g3|g3
   ·
    obtain ⟨c,hc⟩:=get_of_lt g3
    have hcc:=cnE_get hc
    have hmem:=List.mem_of_getElem? hc
    have kr:=rrow_c (n:=(R.length:Int)) (r:=c.row) (by have:=hmt c hmem;omega)
    have kgc:=kg c hmem
    have hbad:=allG_bad (p:=conOk m R.length) hc
    have hok:=allG_ok (p:=conOk m R.length) hc
    rw [conOk_iff] at hbad hok
    obtain ⟨p1,hp1⟩:∃ p,rowB R.length c.row=p:=⟨_,rfl⟩
    obtain ⟨p2,hp2⟩:∃ p,graphB m c=p:=⟨_,rfl⟩
    rw [hp1] at kr hbad hok
    rw [hp2] at kgc hbad hok
    cases p1 <;> cases p2 <;> simp only [and_true,Bool.false_eq_true,and_false,or_false,false_or] at hbad hok
    all_goals
     repeat' (first
|(with_reducible first|apply EvK.seq|apply EvK.block)
|((with_reducible apply EvK.text);(try case hm=>exact rfl))
|(with_reducible first|apply EvK.skip|apply EvK.ret|apply thenK_n|apply thenK_r|apply blockK_n|apply blockK_r)
|((with_reducible apply EvK.cond_t);(case hc=>exact rfl))
|((with_reducible apply EvK.cond_f);(case hc=>exact rfl))
|((with_reducible apply EvO.spd_t);(case hp=>exact fao))
|((with_reducible apply EvO.spd) <;> intro hq)
|((with_reducible apply EvO.spd_yf);(case hp=>exact fao))
|((with_reducible apply EvO.spd_y) <;> intro hq)
|(with_reducible apply EvO.nilT)
|((with_reducible apply EvO.gf);(case hW=>exact rfl))
|((with_reducible apply EvO.gt0);(case hW=>exact rfl);(case hx=>first
|((with_reducible apply OpR.mul);(case hx|hy=>exact rfl);(case h=>omega))
|(exact oqF kr)
|(exact oqF kgc)
|exact opq))
|((with_reducible apply EvO.u0);(case hx=>exact opq))
|fail)
     all_goals first
      | exact fin_b (.inr rfl) rfl (by rw [hbad (by first|omega|(intro h;exact h))])
      | exact ⟨q+1,rfl,rfl,⟨by omega,hok (by omega)⟩,by omega⟩
   ·
    rw [allG_end g3]
    exact drv
 ·
  have e0:consB m R=false:=by
   rw [← Bool.not_eq_true]
   unfold consB
   simp only [Bool.and_eq_true,decide_eq_true_eq]
   exact fun h=>h0 h.1
  rw [e0]
  repeat' (first
|(with_reducible apply EvK.seq)
|((with_reducible apply EvK.text);(try case hm=>exact rfl))
|(with_reducible first|apply EvK.ret|apply thenK_r)
|((with_reducible apply EvK.cond_t);(case hc=>exact rfl))
|((with_reducible apply EvO.spd) <;> intro hq)
|((with_reducible apply EvO.spd_yt);(case hp=>exact fao))
|(with_reducible apply EvO.nilT)
|((with_reducible apply EvO.gf);(case hW=>exact rfl))
|((with_reducible apply EvO.gt0);(case hW=>exact rfl);(case hx=>exact opq))
|((with_reducible apply EvO.u0);(case hx=>first
|((with_reducible apply OpR.mul);(case hx|hy=>exact rfl);(case h=>omega))
|(exact oqX ks)
|exact opq))
|fail)
  all_goals first
   | exact ⟨.inr rfl,rfl⟩
   | (exfalso;omega)
end Go.Proofs.YtcpgmmlaimkojaaGreatDoor
namespace Go.Proofs.YtcpgmmlaimkojaaGreatDoor
open Go.RowKit
set_option maxRecDepth 100000
set_option maxHeartbeats 16000000
theorem chgOk_iff {n:Int} {l:List Chg} {i:Nat} {t:Chg}:chgOk n l i t=true↔(0≤t.cell∧t.cell < n)∧(i=0∨(l.getD (i - 1) ⟨0,0⟩).cell < t.cell)∧t.add≠0∧btw t.add 1000000000=true:=by
 unfold chgOk
 simp only [Bool.and_eq_true,Bool.or_eq_true,Bool.not_eq_true',decide_eq_true_eq,decide_eq_false_iff_not,ne_eq]
theorem updOk_no {m:Md} {l:List Upd} {i:Nat} {u:Upd} (h:tabAt m.sorts m.tables false u.cell=none):updOk m l i u=false:=by unfold updOk;rw [h]
theorem updOk_set {m:Md} {l:List Upd} {i j:Nat} {u:Upd} {t:Tb} (h:tabAt m.sorts m.tables false u.cell=some (j,t)) (hs:setK t.kind=true):updOk m l i u=true↔(i=0∨(l.getD (i - 1) ⟨0,0,0⟩).cell < u.cell)∧(u.kind=0∨u.kind=1)∧u.value=0:=by
 unfold updOk
 rw [h]
 simp only [updT,hs,if_true,Bool.and_eq_true,Bool.or_eq_true,decide_eq_true_eq]
theorem updOk_reg {m:Md} {l:List Upd} {i j:Nat} {u:Upd} {t:Tb} (h:tabAt m.sorts m.tables false u.cell=some (j,t)) (hs:setK t.kind=false):updOk m l i u=true↔(i=0∨(l.getD (i - 1) ⟨0,0,0⟩).cell < u.cell)∧u.kind=2∧t.lo≤u.value∧u.value≤t.hi:=by
 unfold updOk
 rw [h]
 simp only [updT,hs,Bool.false_eq_true,if_false,Bool.and_eq_true,Bool.or_eq_true,decide_eq_true_eq]
structure EfB (x:Eff):Prop where
 delta:x.delta.length≤17592186044416
 hold:x.hold.length≤17592186044416
 hterms:∀ r∈x.hold,r.terms.length≤17592186044416
 ups:x.ups.length≤17592186044416
 cell:∀ u∈x.ups,u.cell≤9223372036854775807
theorem MdL.eff {m:Md} (hm:MdL m):∀ a∈m.acts,EfB a.eff:=fun a ha=>⟨hm.delta a ha,hm.hold a ha,hm.hterms a ha,hm.ups a ha,hm.ucell a ha⟩
theorem reff_c {m:Md} {x:Eff} (hm:MdL m) (hx:EfB x):Cl cfg 135 [.t (mdA m),.t (.agg (efC x))] [] (.t (.bool (effB m (rngs m.sorts m.tables true).length x))) []:=by
 obtain ⟨D,H,U⟩:=x
 obtain ⟨x1,x2,x3,x4,x5⟩:=hx
 have x1:D.length≤17592186044416:=x1
 have x2:H.length≤17592186044416:=x2
 have x3:∀ r∈H,r.terms.length≤17592186044416:=x3
 have x4:U.length≤17592186044416:=x4
 have x5:∀ u∈U,u.cell≤9223372036854775807:=x5
 have hlD:=chE_len D
 have hlH:=rwE_len H
 have hlU:=udE_len U
 have hlL:=tbE_len m.tables
 have ks:=rmstr_c hm
 have hR:=rngs_len m.sorts m.tables true
 have ktu:=fun c hc=>rtuple_c (S:=m.sorts) (L:=m.tables) (s:=false) (c:=c) (by have:=hm.sorts;omega) (by have:=hm.tables;omega) (fun t ht=>by have:=hm.cols t ht;omega) hc
 obtain ⟨R,hRR⟩:∃ R,rngs m.sorts m.tables true=R:=⟨_,rfl⟩
 rw [hRR] at ks hR ⊢
 have hlR:=rgE_len R
 have e1:efC ⟨D,H,U⟩=[.arr (chE D),.arr (rwE H),.arr (udE U)]:=rfl
 rw [e1]
 rw [mdA_eq] at ks ⊢
 obtain ⟨n,hn⟩:∃ n,R.length=n:=⟨_,rfl⟩
 rw [hn] at hlR hR ⊢
 obtain ⟨Y1,hY1⟩:∃ Y,H.all (rowB n)=Y:=⟨_,rfl⟩
 obtain ⟨Y2,hY2⟩:∃ Y,allI (updOk m U) U=Y:=⟨_,rfl⟩
 obtain ⟨Y3,hY3⟩:∃ Y,(decide (H.length≤8) && decide (U.length≤32))=Y:=⟨_,rfl⟩
 have e0:effB m n ⟨D,H,U⟩=((allG (chgOk n D) 0 (D.drop 0) && (Y1 && Y2)) && Y3):=by
  rw [← hY1,← hY2,← hY3];rfl
 rw [e0]
 refine Cl.of_body rfl Tryz.func135 rfl rfl rfl ?_
 repeat' (first
|(with_reducible first|apply EvK.seq|apply EvK.block)
|((with_reducible apply EvK.text);(try case hm=>exact rfl))
|(with_reducible apply EvO.nilT)
|((with_reducible apply EvO.u0);(case hx=>first
|(exact oqX ks)
|exact opq))
|fail)
 rw [hn]
 apply EvK.loopV
 case ho=>exact rfl
 case hp=>exact rfl
 case hl=>exact rfl
 case hs=>exact slt
 refine EvL.ind (fun q:Nat=>[(6,.t (.int .i64 (q:Int)))]) (fun q=>q≤D.length∧allG (chgOk n D) 0 (D.drop 0)=allG (chgOk n D) q (D.drop q)) (fun q=>D.length - q) 0 rfl ⟨by omega,rfl⟩ (fun q hq=>?_)
 obtain ⟨h1,h2⟩:=hq
 rw [h2]
 rcases Nat.lt_or_ge q D.length with h3|h3
 ·
  obtain ⟨t,ht⟩:=get_of_lt h3
  have hc:=chE_get ht
  have kf:=rbtw3 t.add
  have hbad:=allG_bad (p:=chgOk n D) ht
  have hok:=allG_ok (p:=chgOk n D) ht
  rw [chgOk_iff] at hbad hok
  obtain ⟨bf,hbf⟩:∃ b,btw t.add 1000000000=b:=⟨_,rfl⟩
  rw [hbf] at kf hbad hok
  cases q with
  | zero=>
   cases bf with
   | false=>
    rw [hbad (fun h=>by cases h.2.2.2)]
    exact drv
   | true=>
    repeat' (first
|(with_reducible first|apply EvK.seq|apply EvK.block)
|((with_reducible apply EvK.text);(try case hm=>exact rfl))
|((with_reducible apply EvK.drawn);(case hm=>exact rfl))
|(with_reducible first|apply EvK.skip|apply EvK.ret|apply thenK_n|apply thenK_r|apply blockK_n|apply blockK_r)
|((with_reducible apply EvK.cond_t);(case hc=>exact rfl))
|((with_reducible apply EvK.cond_f);(case hc=>exact rfl))
|((with_reducible apply EvO.spd_t);(case hp=>exact fao))
|((with_reducible apply EvO.spd) <;> intro hq)
|((with_reducible apply EvO.spd_yf);(case hp=>exact fao))
|((with_reducible apply EvO.spd_y) <;> intro hq)
|(with_reducible apply EvO.nilT)
|((with_reducible apply EvO.gf);(case hW=>exact rfl))
|((with_reducible apply EvO.gt0);(case hW=>exact rfl);(case hx=>first
|(exact oqF kf)
|exact opq))
|((with_reducible apply EvO.u0);(case hx=>exact opq))
|fail)
    all_goals first
     | exact fin_b (.inr rfl) rfl (by rw [hbad (fun h=>by obtain ⟨_,_,_,_⟩:=h;omega)];rfl)
     | exact ⟨0+1,rfl,rfl,⟨by omega,hok ⟨by omega,.inl rfl,by omega,rfl⟩⟩,by omega⟩
  | succ k=>
   obtain ⟨u,hu⟩:=get_of_lt (xs:=D) (k:=k) (by omega)
   have hcu:=chE_get hu
   have hcu':(chE D)[((k+1:Nat) - 1:Int).toNat]?=some [.int .i64 u.cell,.int .i64 u.add]:=by rw [show ((k+1:Nat) - 1:Int).toNat=k by omega];exact hcu
   have hgu:D.getD (k+1 - 1) ⟨0,0⟩=u:=by rw [Nat.add_sub_cancel,List.getD_eq_getElem?_getD,hu];rfl
   rw [hgu] at hbad hok
   cases bf with
   | false=>
    rw [hbad (fun h=>by cases h.2.2.2)]
    exact drv
   | true=>
    repeat' (first
|(with_reducible first|apply EvK.seq|apply EvK.block)
|((with_reducible apply EvK.text);(try case hm=>exact rfl))
|((with_reducible apply EvK.drawn);(case hm=>exact rfl))
|(with_reducible first|apply EvK.skip|apply EvK.ret|apply thenK_n|apply thenK_r|apply blockK_n|apply blockK_r)
|((with_reducible apply EvK.cond_t);(case hc=>exact rfl))
|((with_reducible apply EvK.cond_f);(case hc=>exact rfl))
|((with_reducible apply EvO.spd_t);(case hp=>exact fao))
|((with_reducible apply EvO.spd) <;> intro hq)
|((with_reducible apply EvO.spd_yt);(case hp=>exact fao))
|((with_reducible apply EvO.spd_y) <;> intro hq)
|(with_reducible apply EvO.nilT)
|((with_reducible apply EvO.gf);(case hW=>exact rfl))
|((with_reducible apply EvO.gt0);(case hW=>exact rfl);(case hx=>first
|(exact oqF kf)
|exact opq))
|((with_reducible apply EvO.u0);(case hx=>exact opq))
|fail)
    all_goals first
     | exact fin_b (.inr rfl) rfl (by rw [hbad (fun h=>by obtain ⟨_,_,_,_⟩:=h;omega)];rfl)
     | exact ⟨k+1+1,rfl,rfl,⟨by omega,hok ⟨by omega,.inr (by omega),by omega,rfl⟩⟩,by omega⟩
 ·
  rw [allG_end h3,Bool.true_and,← hY1]
  have e2:H.all (rowB n)=(H.drop 0).all (rowB n):=rfl
  rw [e2]
  refine drvR ?_
  refine EvL.ind (fun q:Nat=>[(8,.t (.int .i64 (q:Int)))]) (fun q=>q≤H.length∧(H.drop 0).all (rowB n)=(H.drop q).all (rowB n)) (fun q=>H.length - q) 0 rfl ⟨by omega,rfl⟩ (fun q hq=>?_)
  obtain ⟨g1,g2⟩:=hq
  rw [g2]
  rcases Nat.lt_or_ge q H.length with g3|g3
  ·
   obtain ⟨r,hr⟩:=get_of_lt g3
   have hrc:=rwE_get hr
   have kr:=rrow_c (n:=(n:Int)) (r:=r) (by have:=x3 r (List.mem_of_getElem? hr);omega)
   have hht:=all_hit (rowB n) hr
   obtain ⟨b,hb⟩:∃ b,rowB n r=b:=⟨_,rfl⟩
   rw [hb] at kr hht
   rw [hht]
   cases b with
   | false=>
    exact drv
   | true=>
    exact drv
  ·
   rw [alle _ g3,Bool.true_and,← hY2]
   have e3:allI (updOk m U) U=allG (updOk m U) 0 (U.drop 0):=rfl
   rw [e3]
   refine drvR ?_
   refine EvL.ind (fun q:Nat=>[(9,.t (.int .i64 (q:Int)))]) (fun q=>q≤U.length∧allG (updOk m U) 0 (U.drop 0)=allG (updOk m U) q (U.drop q)) (fun q=>U.length - q) 0 rfl ⟨by omega,rfl⟩ (fun q hq=>?_)
   obtain ⟨k1,k2⟩:=hq
   rw [k2]
   rcases Nat.lt_or_ge q U.length with k3|k3
   ·
    obtain ⟨u,hu⟩:=get_of_lt k3
    have huc:=udE_get hu
    have kt:=ktu u.cell (x5 u (List.mem_of_getElem? hu))
    have hbad:=allG_bad (p:=updOk m U) hu
    have hok:=allG_ok (p:=updOk m U) hu
    cases htb:tabAt m.sorts m.tables false u.cell with
    | none=>
     rw [htb] at kt
     rw [hbad (by rw [updOk_no htb];decide)]
     exact drv
    | some jt=>
     obtain ⟨j,t⟩:=jt
     rw [htb] at kt
     obtain ⟨_,htj,_⟩:=tabAt_some htb
     have htc:=tbE_get htj
     have hjl:=lt_of_get htj
     have kse:=rset_c t.kind
     cases hst:setK t.kind with
     | true=>
      rw [hst] at kse
      rw [updOk_set htb hst] at hbad hok
      cases q with
      | zero=>
       repeat' (first
|(with_reducible first|apply EvK.seq|apply EvK.block)
|((with_reducible apply EvK.text);(try case hm=>exact rfl))
|((with_reducible apply EvK.drawn);(case hm=>exact rfl))
|(with_reducible first|apply EvK.skip|apply EvK.ret|apply thenK_n|apply thenK_r|apply blockK_n|apply blockK_r)
|((with_reducible apply EvK.cond_t);(case hc=>exact rfl))
|((with_reducible apply EvK.cond_f);(case hc=>exact rfl))
|((with_reducible apply EvO.spd_t);(case hp=>exact fao))
|((with_reducible apply EvO.spd_yf);(case hp=>exact fao))
|((with_reducible apply EvO.spn_y) <;> intro hq)
|(with_reducible apply EvO.nilT)
|((with_reducible apply EvO.gf);(case hW=>exact rfl))
|((with_reducible apply EvO.gt0);(case hW=>exact rfl);(case hx=>exact opq))
|((with_reducible apply EvO.u0);(case hx=>first
|(exact oqX kt)
|(exact oqF kse)
|exact opq))
|fail)
       all_goals first
        | exact fin_b (.inr rfl) rfl (by rw [hbad (by omega)];rfl)
        | exact ⟨0+1,rfl,rfl,⟨by omega,hok (by omega)⟩,by omega⟩
      | succ k=>
       obtain ⟨w,hw⟩:=get_of_lt (xs:=U) (k:=k) (by omega)
       have hcw:=udE_get hw
       have hcw':(udE U)[((k+1:Nat) - 1:Int).toNat]?=some [.int .i64 w.kind,.int .i64 w.cell,.int .i64 w.value]:=by rw [show ((k+1:Nat) - 1:Int).toNat=k by omega];exact hcw
       have hgw:U.getD (k+1 - 1) ⟨0,0,0⟩=w:=by rw [Nat.add_sub_cancel,List.getD_eq_getElem?_getD,hw];rfl
       rw [hgw] at hbad hok
       repeat' (first
|(with_reducible first|apply EvK.seq|apply EvK.block)
|((with_reducible apply EvK.text);(try case hm=>exact rfl))
|((with_reducible apply EvK.drawn);(case hm=>exact rfl))
|(with_reducible first|apply EvK.skip|apply EvK.ret|apply thenK_n|apply thenK_r|apply blockK_n|apply blockK_r)
|((with_reducible apply EvK.cond_t);(case hc=>exact rfl))
|((with_reducible apply EvK.cond_f);(case hc=>exact rfl))
|((with_reducible apply EvO.spd_t);(case hp=>exact fao))
|((with_reducible apply EvO.spd_yt);(case hp=>exact fao))
|((with_reducible apply EvO.spd_y) <;> intro hq)
|((with_reducible apply EvO.spn_y) <;> intro hq)
|(with_reducible apply EvO.nilT)
|((with_reducible apply EvO.gf);(case hW=>exact rfl))
|((with_reducible apply EvO.gt0);(case hW=>exact rfl);(case hx=>exact opq))
|((with_reducible apply EvO.u0);(case hx=>first
|(exact oqX kt)
|(exact oqF kse)
|exact opq))
|fail)
       all_goals first
        | exact fin_b (.inr rfl) rfl (by rw [hbad (by omega)];rfl)
        | exact ⟨k+1+1,rfl,rfl,⟨by omega,hok (by omega)⟩,by omega⟩
     | false=>
      rw [hst] at kse
      rw [updOk_reg htb hst] at hbad hok
      cases q with
      | zero=>
       repeat' (first
|(with_reducible first|apply EvK.seq|apply EvK.block)
|((with_reducible apply EvK.text);(try case hm=>exact rfl))
|((with_reducible apply EvK.drawn);(case hm=>exact rfl))
|(with_reducible first|apply EvK.skip|apply EvK.ret|apply thenK_n|apply thenK_r|apply blockK_n|apply blockK_r)
|((with_reducible apply EvK.cond_t);(case hc=>exact rfl))
|((with_reducible apply EvK.cond_f);(case hc=>exact rfl))
|((with_reducible apply EvO.spd_t);(case hp=>exact fao))
|((with_reducible apply EvO.spd_yf);(case hp=>exact fao))
|((with_reducible apply EvO.spd_y) <;> intro hq)
|((with_reducible apply EvO.spn_y) <;> intro hq)
|(with_reducible apply EvO.nilT)
|((with_reducible apply EvO.gf);(case hW=>exact rfl))
|((with_reducible apply EvO.gt0);(case hW=>exact rfl);(case hx=>exact opq))
|((with_reducible apply EvO.u0);(case hx=>first
|(exact oqX kt)
|(exact oqF kse)
|exact opq))
|fail)
       all_goals first
        | exact fin_b (.inr rfl) rfl (by rw [hbad (by omega)];rfl)
        | exact ⟨0+1,rfl,rfl,⟨by omega,hok (by omega)⟩,by omega⟩
      | succ k=>
       obtain ⟨w,hw⟩:=get_of_lt (xs:=U) (k:=k) (by omega)
       have hcw:=udE_get hw
       have hcw':(udE U)[((k+1:Nat) - 1:Int).toNat]?=some [.int .i64 w.kind,.int .i64 w.cell,.int .i64 w.value]:=by rw [show ((k+1:Nat) - 1:Int).toNat=k by omega];exact hcw
       have hgw:U.getD (k+1 - 1) ⟨0,0,0⟩=w:=by rw [Nat.add_sub_cancel,List.getD_eq_getElem?_getD,hw];rfl
       rw [hgw] at hbad hok
       repeat' (first
|(with_reducible first|apply EvK.seq|apply EvK.block)
|((with_reducible apply EvK.text);(try case hm=>exact rfl))
|((with_reducible apply EvK.drawn);(case hm=>exact rfl))
|(with_reducible first|apply EvK.skip|apply EvK.ret|apply thenK_n|apply thenK_r|apply blockK_n|apply blockK_r)
|((with_reducible apply EvK.cond_t);(case hc=>exact rfl))
|((with_reducible apply EvK.cond_f);(case hc=>exact rfl))
|((with_reducible apply EvO.spd_t);(case hp=>exact fao))
|((with_reducible apply EvO.spd_yt);(case hp=>exact fao))
|((with_reducible apply EvO.spd_y) <;> intro hq)
|((with_reducible apply EvO.spn_y) <;> intro hq)
|(with_reducible apply EvO.nilT)
|((with_reducible apply EvO.gf);(case hW=>exact rfl))
|((with_reducible apply EvO.gt0);(case hW=>exact rfl);(case hx=>exact opq))
|((with_reducible apply EvO.u0);(case hx=>first
|(exact oqX kt)
|(exact oqF kse)
|exact opq))
|fail)
       all_goals first
        | exact fin_b (.inr rfl) rfl (by rw [hbad (by omega)];rfl)
        | exact ⟨k+1+1,rfl,rfl,⟨by omega,hok (by omega)⟩,by omega⟩
   ·
    rw [allG_end k3,Bool.true_and,← hY3]
    exact drv
end Go.Proofs.YtcpgmmlaimkojaaGreatDoor
