/- The reference's models,part by part,as contracts: effects. No condition. -/
import Derived.Test.YtgbfedgghjcdcaaGreatDoorNG
set_option linter.unusedSimpArgs false
set_option linter.unusedVariables false
set_option linter.unusedSectionVars false
namespace Go.Proofs.YtgbfedgghjcdcaaGreatDoor
open Go.RowKit
set_option maxRecDepth 100000
set_option maxHeartbeats 16000000
theorem chgOk_iff {n:Int} {l:List Chg} {i:Nat} {t:Chg}:chgOk n l i t=true↔(0≤t.cell∧t.cell < n)∧(i=0∨(l.getD (i - 1) ⟨0,0⟩).cell < t.cell)∧t.add≠0∧btw t.add 1000000000=true:=by
 unfold chgOk
 simp only [Bool.and_eq_true,Bool.or_eq_true,Bool.not_eq_true',decide_eq_true_eq,decide_eq_false_iff_not,ne_eq]
theorem updOk_no {m:Md} {l:List Upd} {i:Nat} {u:Upd} (h:tabAt m.sorts m.tables false u.cell=none):updOk m l i u=false:=by unfold updOk;rw [h]
theorem updOk_set {m:Md} {l:List Upd} {i j:Nat} {u:Upd} {t:Tb} (h:tabAt m.sorts m.tables false u.cell=some (j,t)) (hs:setK t.kind=true):updOk m l i u=true↔(i=0∨(l.getD (i - 1) ⟨0,0,0⟩).cell < u.cell)∧(u.kind=0∨u.kind=1)∧u.value=0:=by
 unfold updOk
 rw [h]
 simp only [updT,hs,if_true,Bool.and_eq_true,Bool.or_eq_true,decide_eq_true_eq]
theorem updOk_reg {m:Md} {l:List Upd} {i j:Nat} {u:Upd} {t:Tb} (h:tabAt m.sorts m.tables false u.cell=some (j,t)) (hs:setK t.kind=false):updOk m l i u=true↔(i=0∨(l.getD (i - 1) ⟨0,0,0⟩).cell < u.cell)∧u.kind=2∧t.lo≤u.value∧u.value≤t.hi:=by
 unfold updOk
 rw [h]
 simp only [updT,hs,Bool.false_eq_true,if_false,Bool.and_eq_true,Bool.or_eq_true,decide_eq_true_eq]
structure EfB (x:Eff):Prop where
 delta:x.delta.length≤17592186044416
 hold:x.hold.length≤17592186044416
 hterms:∀ r∈x.hold,r.terms.length≤17592186044416
 ups:x.ups.length≤17592186044416
 cell:∀ u∈x.ups,u.cell≤9223372036854775807
theorem MdL.eff {m:Md} (hm:MdL m):∀ a∈m.acts,EfB a.eff:=fun a ha=>⟨hm.delta a ha,hm.hold a ha,hm.hterms a ha,hm.ups a ha,hm.ucell a ha⟩
theorem reff_c {m:Md} {x:Eff} (hm:MdL m) (hx:EfB x):Cl cfg 150 [.t (mdA m),.t (.agg (efC x))] [] (.t (.bool (effB m (rngs m.sorts m.tables true).length x))) []:=by
 obtain ⟨D,H,U⟩:=x
 obtain ⟨x1,x2,x3,x4,x5⟩:=hx
 have x1:D.length≤17592186044416:=x1
 have x2:H.length≤17592186044416:=x2
 have x3:∀ r∈H,r.terms.length≤17592186044416:=x3
 have x4:U.length≤17592186044416:=x4
 have x5:∀ u∈U,u.cell≤9223372036854775807:=x5
 have hlD:=chE_len D
 have hlH:=rwE_len H
 have hlU:=udE_len U
 have hlL:=tbE_len m.tables
 have ks:=rmstr_c hm
 have hR:=rngs_len m.sorts m.tables true
 have ktu:=fun c hc=>rtuple_c (S:=m.sorts) (L:=m.tables) (s:=false) (c:=c) (by have:=hm.sorts;omega) (by have:=hm.tables;omega) (fun t ht=>by have:=hm.cols t ht;omega) hc
 obtain ⟨R,hRR⟩:∃ R,rngs m.sorts m.tables true=R:=⟨_,rfl⟩
 rw [hRR] at ks hR ⊢
 have hlR:=rgE_len R
 have e1:efC ⟨D,H,U⟩=[.arr (chE D),.arr (rwE H),.arr (udE U)]:=rfl
 rw [e1]
 rw [mdA_eq] at ks ⊢
 obtain ⟨n,hn⟩:∃ n,R.length=n:=⟨_,rfl⟩
 rw [hn] at hlR hR ⊢
 obtain ⟨Y1,hY1⟩:∃ Y,H.all (rowB n)=Y:=⟨_,rfl⟩
 obtain ⟨Y2,hY2⟩:∃ Y,allI (updOk m U) U=Y:=⟨_,rfl⟩
 obtain ⟨Y3,hY3⟩:∃ Y,(decide (H.length≤8) && decide (U.length≤32))=Y:=⟨_,rfl⟩
 have e0:effB m n ⟨D,H,U⟩=((allG (chgOk n D) 0 (D.drop 0) && (Y1 && Y2)) && Y3):=by
  rw [← hY1,← hY2,← hY3];rfl
 rw [e0]
 refine Cl.of_body rfl Tryz.func150 rfl rfl rfl ?_
 repeat' (first
|(with_reducible first|apply EvK.seq|apply EvK.block)
|((with_reducible apply EvK.text);(try case hm=>exact rfl))
|(with_reducible apply EvO.nilT)
|((with_reducible apply EvO.u0);(case hx=>first
|(exact oqX ks)
|exact opq))
|fail)
 rw [hn]
 apply EvK.loopV
 case ho=>exact rfl
 case hp=>exact rfl
 case hl=>exact rfl
 case hs=>exact slt
 refine EvL.ind (fun q:Nat=>[(6,.t (.int .i64 (q:Int)))]) (fun q=>q≤D.length∧allG (chgOk n D) 0 (D.drop 0)=allG (chgOk n D) q (D.drop q)) (fun q=>D.length - q) 0 rfl ⟨by omega,rfl⟩ (fun q hq=>?_)
 obtain ⟨h1,h2⟩:=hq
 rw [h2]
 rcases Nat.lt_or_ge q D.length with h3|h3
 ·
  obtain ⟨t,ht⟩:=get_of_lt h3
  have hc:=chE_get ht
  have kf:=rbtw3 t.add
  have hbad:=allG_bad (p:=chgOk n D) ht
  have hok:=allG_ok (p:=chgOk n D) ht
  rw [chgOk_iff] at hbad hok
  obtain ⟨bf,hbf⟩:∃ b,btw t.add 1000000000=b:=⟨_,rfl⟩
  rw [hbf] at kf hbad hok
  cases q with
  | zero=>
   cases bf with
   | false=>
    rw [hbad (fun h=>by cases h.2.2.2)]
    repeat' (first
|(with_reducible first|apply EvK.seq|apply EvK.block)
|((with_reducible apply EvK.text);(try case hm=>exact rfl))
|((with_reducible apply EvK.drawn);(case hm=>exact rfl))
|(with_reducible first|apply EvK.skip|apply EvK.ret|apply thenK_n|apply thenK_r|apply blockK_r)
|((with_reducible apply EvK.cond_t);(case hc=>exact rfl))
|((with_reducible apply EvO.spd_t);(case hp=>exact fao))
|((with_reducible apply EvO.spd) <;> intro hq)
|((with_reducible apply EvO.spd_yf);(case hp=>exact fao))
|((with_reducible apply EvO.spd_y) <;> intro hq)
|(with_reducible apply EvO.nilT)
|((with_reducible apply EvO.gf);(case hW=>exact rfl))
|((with_reducible apply EvO.gt0);(case hW=>exact rfl);(case hx=>first
|(exact oqF kf)
|exact opq))
|((with_reducible apply EvO.u0);(case hx=>exact opq))
|fail)
    all_goals exact ⟨.inr rfl,rfl⟩
   | true=>
    repeat' (first
|(with_reducible first|apply EvK.seq|apply EvK.block)
|((with_reducible apply EvK.text);(try case hm=>exact rfl))
|((with_reducible apply EvK.drawn);(case hm=>exact rfl))
|(with_reducible first|apply EvK.skip|apply EvK.ret|apply thenK_n|apply thenK_r|apply blockK_n|apply blockK_r)
|((with_reducible apply EvK.cond_t);(case hc=>exact rfl))
|((with_reducible apply EvK.cond_f);(case hc=>exact rfl))
|((with_reducible apply EvO.spd_t);(case hp=>exact fao))
|((with_reducible apply EvO.spd) <;> intro hq)
|((with_reducible apply EvO.spd_yf);(case hp=>exact fao))
|((with_reducible apply EvO.spd_y) <;> intro hq)
|(with_reducible apply EvO.nilT)
|((with_reducible apply EvO.gf);(case hW=>exact rfl))
|((with_reducible apply EvO.gt0);(case hW=>exact rfl);(case hx=>first
|(exact oqF kf)
|exact opq))
|((with_reducible apply EvO.u0);(case hx=>exact opq))
|fail)
    all_goals first
     | exact fin_b (.inr rfl) rfl (by rw [hbad (fun h=>by obtain ⟨_,_,_,_⟩:=h;omega)];rfl)
     | exact ⟨0+1,rfl,rfl,⟨by omega,hok ⟨by omega,.inl rfl,by omega,rfl⟩⟩,by omega⟩
  | succ k=>
   obtain ⟨u,hu⟩:=get_of_lt (xs:=D) (k:=k) (by omega)
   have hcu:=chE_get hu
   have hcu':(chE D)[((k+1:Nat) - 1:Int).toNat]?=some [.int .i64 u.cell,.int .i64 u.add]:=by rw [show ((k+1:Nat) - 1:Int).toNat=k by omega];exact hcu
   have hgu:D.getD (k+1 - 1) ⟨0,0⟩=u:=by rw [Nat.add_sub_cancel,List.getD_eq_getElem?_getD,hu];rfl
   rw [hgu] at hbad hok
   cases bf with
   | false=>
    rw [hbad (fun h=>by cases h.2.2.2)]
    repeat' (first
|(with_reducible first|apply EvK.seq|apply EvK.block)
|((with_reducible apply EvK.text);(try case hm=>exact rfl))
|((with_reducible apply EvK.drawn);(case hm=>exact rfl))
|(with_reducible first|apply EvK.skip|apply EvK.ret|apply thenK_n|apply thenK_r|apply blockK_r)
|((with_reducible apply EvK.cond_t);(case hc=>exact rfl))
|((with_reducible apply EvO.spd_t);(case hp=>exact fao))
|((with_reducible apply EvO.spd) <;> intro hq)
|((with_reducible apply EvO.spd_yt);(case hp=>exact fao))
|((with_reducible apply EvO.spd_y) <;> intro hq)
|(with_reducible apply EvO.nilT)
|((with_reducible apply EvO.gf);(case hW=>exact rfl))
|((with_reducible apply EvO.gt0);(case hW=>exact rfl);(case hx=>first
|(exact oqF kf)
|exact opq))
|((with_reducible apply EvO.u0);(case hx=>exact opq))
|fail)
    all_goals exact ⟨.inr rfl,rfl⟩
   | true=>
    repeat' (first
|(with_reducible first|apply EvK.seq|apply EvK.block)
|((with_reducible apply EvK.text);(try case hm=>exact rfl))
|((with_reducible apply EvK.drawn);(case hm=>exact rfl))
|(with_reducible first|apply EvK.skip|apply EvK.ret|apply thenK_n|apply thenK_r|apply blockK_n|apply blockK_r)
|((with_reducible apply EvK.cond_t);(case hc=>exact rfl))
|((with_reducible apply EvK.cond_f);(case hc=>exact rfl))
|((with_reducible apply EvO.spd_t);(case hp=>exact fao))
|((with_reducible apply EvO.spd) <;> intro hq)
|((with_reducible apply EvO.spd_yt);(case hp=>exact fao))
|((with_reducible apply EvO.spd_y) <;> intro hq)
|(with_reducible apply EvO.nilT)
|((with_reducible apply EvO.gf);(case hW=>exact rfl))
|((with_reducible apply EvO.gt0);(case hW=>exact rfl);(case hx=>first
|(exact oqF kf)
|exact opq))
|((with_reducible apply EvO.u0);(case hx=>exact opq))
|fail)
    all_goals first
     | exact fin_b (.inr rfl) rfl (by rw [hbad (fun h=>by obtain ⟨_,_,_,_⟩:=h;omega)];rfl)
     | exact ⟨k+1+1,rfl,rfl,⟨by omega,hok ⟨by omega,.inr (by omega),by omega,rfl⟩⟩,by omega⟩
 ·
  rw [allG_end h3,Bool.true_and,← hY1]
  have e2:H.all (rowB n)=(H.drop 0).all (rowB n):=rfl
  rw [e2]
  repeat' (first
|(with_reducible first|apply EvK.seq|apply EvK.block)
|((with_reducible apply EvK.text);(try case hm=>exact rfl))
|(with_reducible first|apply EvK.exit|apply thenK_n|apply thenK_e|apply blockK_h)
|((with_reducible apply EvK.cond_f);(case hc=>exact rfl))
|((with_reducible apply EvO.spd_f);(case hp=>exact fao))
|(with_reducible apply EvO.nilT)
|((with_reducible apply EvO.u0);(case hx=>exact opq))
|fail)
  apply EvK.loopV
  case ho=>exact rfl
  case hp=>exact rfl
  case hl=>exact rfl
  case hs=>exact slt
  refine EvL.ind (fun q:Nat=>[(8,.t (.int .i64 (q:Int)))]) (fun q=>q≤H.length∧(H.drop 0).all (rowB n)=(H.drop q).all (rowB n)) (fun q=>H.length - q) 0 rfl ⟨by omega,rfl⟩ (fun q hq=>?_)
  obtain ⟨g1,g2⟩:=hq
  rw [g2]
  rcases Nat.lt_or_ge q H.length with g3|g3
  ·
   obtain ⟨r,hr⟩:=get_of_lt g3
   have hrc:=rwE_get hr
   have kr:=rrow_c (n:=(n:Int)) (r:=r) (by have:=x3 r (List.mem_of_getElem? hr);omega)
   have hht:=all_hit (rowB n) hr
   obtain ⟨b,hb⟩:∃ b,rowB n r=b:=⟨_,rfl⟩
   rw [hb] at kr hht
   rw [hht]
   cases b with
   | false=>
    repeat' (first
|(with_reducible first|apply EvK.seq|apply EvK.block)
|((with_reducible apply EvK.text);(try case hm=>exact rfl))
|(with_reducible first|apply EvK.skip|apply EvK.ret|apply thenK_n|apply thenK_r|apply blockK_r)
|((with_reducible apply EvK.cond_t);(case hc=>exact rfl))
|((with_reducible apply EvO.spd_t);(case hp=>exact fao))
|(with_reducible apply EvO.nilT)
|((with_reducible apply EvO.u0);(case hx=>first
|(exact oqF kr)
|exact opq))
|fail)
    exact ⟨.inr rfl,rfl⟩
   | true=>
    repeat' (first
|(with_reducible first|apply EvK.seq|apply EvK.block)
|((with_reducible apply EvK.text);(try case hm=>exact rfl))
|(with_reducible first|apply EvK.skip|apply thenK_n|apply blockK_n)
|((with_reducible apply EvK.cond_t);(case hc=>exact rfl))
|((with_reducible apply EvK.cond_f);(case hc=>exact rfl))
|((with_reducible apply EvO.spd_t);(case hp=>exact fao))
|(with_reducible apply EvO.nilT)
|((with_reducible apply EvO.u0);(case hx=>first
|(exact oqF kr)
|exact opq))
|fail)
    exact ⟨q+1,rfl,rfl,⟨by omega,rfl⟩,by omega⟩
  ·
   rw [alle _ g3,Bool.true_and,← hY2]
   have e3:allI (updOk m U) U=allG (updOk m U) 0 (U.drop 0):=rfl
   rw [e3]
   repeat' (first
|(with_reducible first|apply EvK.seq|apply EvK.block)
|((with_reducible apply EvK.text);(try case hm=>exact rfl))
|(with_reducible first|apply EvK.exit|apply thenK_n|apply thenK_e|apply blockK_h)
|((with_reducible apply EvK.cond_f);(case hc=>exact rfl))
|((with_reducible apply EvO.spd_f);(case hp=>exact fao))
|(with_reducible apply EvO.nilT)
|((with_reducible apply EvO.u0);(case hx=>exact opq))
|fail)
   apply EvK.loopV
   case ho=>exact rfl
   case hp=>exact rfl
   case hl=>exact rfl
   case hs=>exact slt
   refine EvL.ind (fun q:Nat=>[(9,.t (.int .i64 (q:Int)))]) (fun q=>q≤U.length∧allG (updOk m U) 0 (U.drop 0)=allG (updOk m U) q (U.drop q)) (fun q=>U.length - q) 0 rfl ⟨by omega,rfl⟩ (fun q hq=>?_)
   obtain ⟨k1,k2⟩:=hq
   rw [k2]
   rcases Nat.lt_or_ge q U.length with k3|k3
   ·
    obtain ⟨u,hu⟩:=get_of_lt k3
    have huc:=udE_get hu
    have kt:=ktu u.cell (x5 u (List.mem_of_getElem? hu))
    have hbad:=allG_bad (p:=updOk m U) hu
    have hok:=allG_ok (p:=updOk m U) hu
    cases htb:tabAt m.sorts m.tables false u.cell with
    | none=>
     rw [htb] at kt
     rw [hbad (by rw [updOk_no htb];decide)]
     repeat' (first
|(with_reducible first|apply EvK.seq|apply EvK.block)
|((with_reducible apply EvK.text);(try case hm=>exact rfl))
|((with_reducible apply EvK.drawn);(case hm=>exact rfl))
|(with_reducible first|apply EvK.skip|apply EvK.ret|apply thenK_n|apply thenK_r|apply blockK_r)
|((with_reducible apply EvK.cond_t);(case hc=>exact rfl))
|((with_reducible apply EvO.spd_t);(case hp=>exact fao))
|(with_reducible apply EvO.nilT)
|((with_reducible apply EvO.gf);(case hW=>exact rfl))
|((with_reducible apply EvO.u0);(case hx=>first
|(exact oqF kt)
|exact opq))
|fail)
     exact ⟨.inr rfl,rfl⟩
    | some jt=>
     obtain ⟨j,t⟩:=jt
     rw [htb] at kt
     obtain ⟨_,htj,_⟩:=tabAt_some htb
     have htc:=tbE_get htj
     have hjl:=lt_of_get htj
     have kse:=rset_c t.kind
     cases hst:setK t.kind with
     | true=>
      rw [hst] at kse
      rw [updOk_set htb hst] at hbad hok
      cases q with
      | zero=>
       repeat' (first
|(with_reducible first|apply EvK.seq|apply EvK.block)
|((with_reducible apply EvK.text);(try case hm=>exact rfl))
|((with_reducible apply EvK.drawn);(case hm=>exact rfl))
|(with_reducible first|apply EvK.skip|apply EvK.ret|apply thenK_n|apply thenK_r|apply blockK_n|apply blockK_r)
|((with_reducible apply EvK.cond_t);(case hc=>exact rfl))
|((with_reducible apply EvK.cond_f);(case hc=>exact rfl))
|((with_reducible apply EvO.spd_t);(case hp=>exact fao))
|((with_reducible apply EvO.spd_yf);(case hp=>exact fao))
|((with_reducible apply EvO.spn_y) <;> intro hq)
|(with_reducible apply EvO.nilT)
|((with_reducible apply EvO.gf);(case hW=>exact rfl))
|((with_reducible apply EvO.gt0);(case hW=>exact rfl);(case hx=>exact opq))
|((with_reducible apply EvO.u0);(case hx=>first
|(exact oqX kt)
|(exact oqF kse)
|exact opq))
|fail)
       all_goals first
        | exact fin_b (.inr rfl) rfl (by rw [hbad (by omega)];rfl)
        | exact ⟨0+1,rfl,rfl,⟨by omega,hok (by omega)⟩,by omega⟩
      | succ k=>
       obtain ⟨w,hw⟩:=get_of_lt (xs:=U) (k:=k) (by omega)
       have hcw:=udE_get hw
       have hcw':(udE U)[((k+1:Nat) - 1:Int).toNat]?=some [.int .i64 w.kind,.int .i64 w.cell,.int .i64 w.value]:=by rw [show ((k+1:Nat) - 1:Int).toNat=k by omega];exact hcw
       have hgw:U.getD (k+1 - 1) ⟨0,0,0⟩=w:=by rw [Nat.add_sub_cancel,List.getD_eq_getElem?_getD,hw];rfl
       rw [hgw] at hbad hok
       repeat' (first
|(with_reducible first|apply EvK.seq|apply EvK.block)
|((with_reducible apply EvK.text);(try case hm=>exact rfl))
|((with_reducible apply EvK.drawn);(case hm=>exact rfl))
|(with_reducible first|apply EvK.skip|apply EvK.ret|apply thenK_n|apply thenK_r|apply blockK_n|apply blockK_r)
|((with_reducible apply EvK.cond_t);(case hc=>exact rfl))
|((with_reducible apply EvK.cond_f);(case hc=>exact rfl))
|((with_reducible apply EvO.spd_t);(case hp=>exact fao))
|((with_reducible apply EvO.spd_yt);(case hp=>exact fao))
|((with_reducible apply EvO.spd_y) <;> intro hq)
|((with_reducible apply EvO.spn_y) <;> intro hq)
|(with_reducible apply EvO.nilT)
|((with_reducible apply EvO.gf);(case hW=>exact rfl))
|((with_reducible apply EvO.gt0);(case hW=>exact rfl);(case hx=>exact opq))
|((with_reducible apply EvO.u0);(case hx=>first
|(exact oqX kt)
|(exact oqF kse)
|exact opq))
|fail)
       all_goals first
        | exact fin_b (.inr rfl) rfl (by rw [hbad (by omega)];rfl)
        | exact ⟨k+1+1,rfl,rfl,⟨by omega,hok (by omega)⟩,by omega⟩
     | false=>
      rw [hst] at kse
      rw [updOk_reg htb hst] at hbad hok
      cases q with
      | zero=>
       repeat' (first
|(with_reducible first|apply EvK.seq|apply EvK.block)
|((with_reducible apply EvK.text);(try case hm=>exact rfl))
|((with_reducible apply EvK.drawn);(case hm=>exact rfl))
|(with_reducible first|apply EvK.skip|apply EvK.ret|apply thenK_n|apply thenK_r|apply blockK_n|apply blockK_r)
|((with_reducible apply EvK.cond_t);(case hc=>exact rfl))
|((with_reducible apply EvK.cond_f);(case hc=>exact rfl))
|((with_reducible apply EvO.spd_t);(case hp=>exact fao))
|((with_reducible apply EvO.spd_yf);(case hp=>exact fao))
|((with_reducible apply EvO.spd_y) <;> intro hq)
|((with_reducible apply EvO.spn_y) <;> intro hq)
|(with_reducible apply EvO.nilT)
|((with_reducible apply EvO.gf);(case hW=>exact rfl))
|((with_reducible apply EvO.gt0);(case hW=>exact rfl);(case hx=>exact opq))
|((with_reducible apply EvO.u0);(case hx=>first
|(exact oqX kt)
|(exact oqF kse)
|exact opq))
|fail)
       all_goals first
        | exact fin_b (.inr rfl) rfl (by rw [hbad (by omega)];rfl)
        | exact ⟨0+1,rfl,rfl,⟨by omega,hok (by omega)⟩,by omega⟩
      | succ k=>
       obtain ⟨w,hw⟩:=get_of_lt (xs:=U) (k:=k) (by omega)
       have hcw:=udE_get hw
       have hcw':(udE U)[((k+1:Nat) - 1:Int).toNat]?=some [.int .i64 w.kind,.int .i64 w.cell,.int .i64 w.value]:=by rw [show ((k+1:Nat) - 1:Int).toNat=k by omega];exact hcw
       have hgw:U.getD (k+1 - 1) ⟨0,0,0⟩=w:=by rw [Nat.add_sub_cancel,List.getD_eq_getElem?_getD,hw];rfl
       rw [hgw] at hbad hok
       repeat' (first
|(with_reducible first|apply EvK.seq|apply EvK.block)
|((with_reducible apply EvK.text);(try case hm=>exact rfl))
|((with_reducible apply EvK.drawn);(case hm=>exact rfl))
|(with_reducible first|apply EvK.skip|apply EvK.ret|apply thenK_n|apply thenK_r|apply blockK_n|apply blockK_r)
|((with_reducible apply EvK.cond_t);(case hc=>exact rfl))
|((with_reducible apply EvK.cond_f);(case hc=>exact rfl))
|((with_reducible apply EvO.spd_t);(case hp=>exact fao))
|((with_reducible apply EvO.spd_yt);(case hp=>exact fao))
|((with_reducible apply EvO.spd_y) <;> intro hq)
|((with_reducible apply EvO.spn_y) <;> intro hq)
|(with_reducible apply EvO.nilT)
|((with_reducible apply EvO.gf);(case hW=>exact rfl))
|((with_reducible apply EvO.gt0);(case hW=>exact rfl);(case hx=>exact opq))
|((with_reducible apply EvO.u0);(case hx=>first
|(exact oqX kt)
|(exact oqF kse)
|exact opq))
|fail)
       all_goals first
        | exact fin_b (.inr rfl) rfl (by rw [hbad (by omega)];rfl)
        | exact ⟨k+1+1,rfl,rfl,⟨by omega,hok (by omega)⟩,by omega⟩
   ·
    rw [allG_end k3,Bool.true_and,← hY3]
    repeat' (first
|(with_reducible apply EvK.seq)
|((with_reducible apply EvK.text);(try case hm=>exact rfl))
|(with_reducible first|apply EvK.exit|apply EvK.ret|apply thenK_n|apply thenK_e|apply blockK_h)
|((with_reducible apply EvK.cond_f);(case hc=>exact rfl))
|((with_reducible apply EvO.spd_f);(case hp=>exact fao))
|((with_reducible apply EvO.spd) <;> intro hq)
|((with_reducible apply EvO.spd_y) <;> intro hq)
|(with_reducible apply EvO.nilT)
|((with_reducible apply EvO.gf);(case hW=>exact rfl))
|((with_reducible apply EvO.gt0);(case hW=>exact rfl);(case hx=>exact opq))
|((with_reducible apply EvO.u0);(case hx=>exact opq))
|fail)
    all_goals (refine fin_b (.inr rfl) rfl ?_;simp;try omega)
end Go.Proofs.YtgbfedgghjcdcaaGreatDoor
