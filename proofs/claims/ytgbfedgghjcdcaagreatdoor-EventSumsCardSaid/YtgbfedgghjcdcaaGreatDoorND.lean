/- The reference's models,part by part,as contracts: references with hide. No condition. -/
import Derived.Test.YtgbfedgghjcdcaaGreatDoorNC
set_option linter.unusedSimpArgs false
set_option linter.unusedVariables false
set_option linter.unusedSectionVars false
namespace Go.Proofs.YtgbfedgghjcdcaaGreatDoor
open Go.RowKit
set_option maxRecDepth 100000
set_option maxHeartbeats 16000000
theorem idxOk_iff {i:Int} {n:Nat}:idxOk i n=true↔0≤i∧i < n:=by
 unfold idxOk
 simp only [Bool.and_eq_true,decide_eq_true_eq]
theorem hideOk_no {m:Md} {h:Hde} (hn:¬ (0≤h.table∧h.table < m.tables.length∧0≤h.to∧h.to < m.tables.length∧h.table≠h.to)):hideOk m h=false:=by
 rw [← Bool.not_eq_true]
 intro ho
 unfold hideOk at ho
 simp only [Bool.and_eq_true,idxOk_iff,Bool.not_eq_true',decide_eq_false_iff_not] at ho
 exact hn ⟨ho.1.1.1,ho.1.1.2,ho.1.2.1.1,ho.1.2.1.2,ho.1.2.2⟩
theorem hideOk_yes {m:Md} {h:Hde} {t u:Tb} (hA:0≤h.table∧h.table < m.tables.length∧0≤h.to∧h.to < m.tables.length∧h.table≠h.to) (ht:m.tables[h.table.toNat]?=some t) (hu:m.tables[h.to.toNat]?=some u):hideOk m h=true↔t.kind=0∧u.kind=0∧(0≤h.col∧h.col < t.cols.length)∧u.cols.length=1∧u.cols.getD 0 0=t.cols.getD h.col.toNat 0:=by
 unfold hideOk
 rw [List.getD_eq_getElem?_getD,List.getD_eq_getElem?_getD,ht,hu]
 simp only [Bool.and_eq_true,idxOk_iff,Bool.not_eq_true',decide_eq_false_iff_not,decide_eq_true_eq,Option.getD_some]
 constructor
 ·rintro ⟨_,⟨h1,h2⟩,h3,h4,h5⟩
  exact ⟨h1,h2,h3,h4,h5⟩
 ·rintro ⟨h1,h2,h3,h4,h5⟩
  exact ⟨⟨⟨hA.1,hA.2.1⟩,⟨hA.2.2.1,hA.2.2.2.1⟩,hA.2.2.2.2⟩,⟨h1,h2⟩,h3,h4,h5⟩
theorem len1 {l:List Int} (h:l.length=1):∃ a,l=[a]:=by
 match l,h with
 | [a],_=>exact ⟨a,rfl⟩
theorem rhidden_c {m:Md} (hm:MdL m) (hv:layB m.sorts m.tables=true):Cl cfg 101 [.t (mdA m)] [] (.t (.bool (hidesB m))) []:=by
 have hlH:=hdE_len m.hides
 have hlL:=tbE_len m.tables
 have hfew:=lay_few hv
 have kL:=fun a b=>rleads_c hm m.tables.length (m.tables.length:Int) a b rfl (by omega)
 rw [mdA_eq] at kL ⊢
 refine Cl.of_body rfl Tryz.func101 rfl rfl rfl ?_
 by_cases h12:m.hides.length≤12
 ·
  have e0:hidesB m=((m.hides.drop 0).all (hideOk m) && (m.hides.drop 0).all fun h=>!leadsB m.hides m.tables.length h.to h.table):=by unfold hidesB;simp [h12]
  obtain ⟨Y,hY⟩:∃ Y,((m.hides.drop 0).all fun h=>!leadsB m.hides m.tables.length h.to h.table)=Y:=⟨_,rfl⟩
  rw [e0,hY]
  repeat' (first
|(with_reducible first|apply EvK.seq|apply EvK.block)
|((with_reducible apply EvK.text);(try case hm=>exact rfl))
|(with_reducible first|apply EvK.skip|apply thenK_n)
|((with_reducible apply EvK.cond_f);(case hc=>exact rfl))
|((with_reducible apply EvO.spd_f);(case hp=>exact fao))
|(with_reducible apply EvO.nilT)
|((with_reducible apply EvO.u0);(case hx=>exact opq))
|fail)
  apply EvK.loopV
  case ho=>exact rfl
  case hp=>exact rfl
  case hl=>exact rfl
  case hs=>exact slt
  refine EvL.ind (fun q:Nat=>[(3,.t (.int .i64 (q:Int)))]) (fun q=>q≤m.hides.length∧(m.hides.drop 0).all (hideOk m)=(m.hides.drop q).all (hideOk m)) (fun q=>m.hides.length - q) 0 rfl ⟨by omega,rfl⟩ (fun q hq=>?_)
  obtain ⟨h1,h2⟩:=hq
  rw [h2]
  rcases Nat.lt_or_ge q m.hides.length with h3|h3
  ·
   obtain ⟨h,hh⟩:=get_of_lt h3
   have hhc:=hdE_get hh
   have hht:=all_hit (hideOk m) hh
   by_cases hA:0≤h.table∧h.table < m.tables.length∧0≤h.to∧h.to < m.tables.length∧h.table≠h.to
   ·
    obtain ⟨t,ht⟩:=get_of_lt (xs:=m.tables) (k:=h.table.toNat) (by omega)
    obtain ⟨u,hu⟩:=get_of_lt (xs:=m.tables) (k:=h.to.toNat) (by omega)
    have htc:=tbE_get ht
    have huc:=tbE_get hu
    have hlt:=intsE_len t.cols
    have hlu:=intsE_len u.cols
    have hiff:=hideOk_yes hA ht hu
    obtain ⟨a1,a2,a3,a4,a5⟩:=hA
    by_cases hB:(0≤h.col∧h.col < t.cols.length)∧u.cols.length=1
    ·
     obtain ⟨⟨b1,b2⟩,b3⟩:=hB
     obtain ⟨y,hy⟩:=len1 b3
     obtain ⟨z,hz⟩:=get_of_lt (xs:=t.cols) (k:=h.col.toNat) (by omega)
     have hyc:(intsE u.cols)[0]?=some [.int .i64 y]:=intsE_get (by rw [hy];rfl)
     have hzc:=intsE_get hz
     have ey:u.cols.getD 0 0=y:=by rw [hy];rfl
     rw [ey,getD_get hz] at hiff
     by_cases hP:t.kind=0∧u.kind=0∧y=z
     ·
      have hok:hideOk m h=true:=hiff.2 ⟨hP.1,hP.2.1,⟨b1,b2⟩,b3,hP.2.2⟩
      rw [hok,Bool.true_and] at hht
      obtain ⟨p1,p2,p3⟩:=hP
      rw [hht]
      repeat' (first
|(with_reducible first|apply EvK.seq|apply EvK.block)
|((with_reducible apply EvK.text);(try case hm=>exact rfl))
|((with_reducible apply EvK.drawn);(case hm=>exact rfl))
|((with_reducible apply EvK.drawnD);(case hm|he=>exact rfl))
|(with_reducible first|apply EvK.skip|apply thenK_n|apply blockK_n)
|((with_reducible apply EvK.cond_t);(case hc=>exact rfl))
|((with_reducible apply EvK.cond_f);(case hc=>exact rfl))
|((with_reducible apply EvO.spd_t);(case hp=>exact fao))
|((with_reducible apply EvO.spd_f);(case hp=>exact fao))
|((with_reducible apply EvO.spn_f);(case hp=>exact fao))
|((with_reducible apply EvO.spd_yf);(case hp=>exact fao))
|((with_reducible apply EvO.spn_yf);(case hp=>exact fao))
|(with_reducible apply EvO.nilT)
|((with_reducible apply EvOF.nilET);(case hck=>kernel_rfl))
|((with_reducible apply EvOF.u);(case hfl=>kernel_rfl);(case hx=>exact opq))
|((with_reducible apply EvO.gt0);(case hW=>exact rfl);(case hx=>exact opq))
|((with_reducible apply EvO.u0);(case hx=>exact opq))
|fail)
      exact ⟨q+1,rfl,rfl,⟨by omega,rfl⟩,by omega⟩
     ·
      have hno:hideOk m h=false:=by rw [← Bool.not_eq_true,hiff];exact fun h'=>hP ⟨h'.1,h'.2.1,h'.2.2.2.2⟩
      rw [hht,hno,Bool.false_and,Bool.false_and]
      repeat' (first
|(with_reducible first|apply EvK.seq|apply EvK.block)
|((with_reducible apply EvK.text);(try case hm=>exact rfl))
|((with_reducible apply EvK.drawn);(case hm=>exact rfl))
|((with_reducible apply EvK.drawnD);(case hm|he=>exact rfl))
|(with_reducible first|apply EvK.skip|apply EvK.ret|apply thenK_n|apply thenK_r|apply blockK_r)
|((with_reducible apply EvK.cond_t);(case hc=>exact rfl))
|((with_reducible apply EvK.cond_f);(case hc=>exact rfl))
|((with_reducible apply EvO.spd_t);(case hp=>exact fao))
|((with_reducible apply EvO.spd_f);(case hp=>exact fao))
|((with_reducible apply EvO.spn) <;> intro hq)
|((with_reducible apply EvO.spd_yf);(case hp=>exact fao))
|((with_reducible apply EvO.spn_yt);(case hp=>exact fao))
|((with_reducible apply EvO.spn_yf);(case hp=>exact fao))
|((with_reducible apply EvO.spn_y) <;> intro hq)
|(with_reducible apply EvO.nilT)
|((with_reducible apply EvO.gf);(case hW=>exact rfl))
|((with_reducible apply EvOF.nilET);(case hck=>kernel_rfl))
|((with_reducible apply EvOF.u);(case hfl=>kernel_rfl);(case hx=>exact opq))
|((with_reducible apply EvO.gt0);(case hW=>exact rfl);(case hx=>exact opq))
|((with_reducible apply EvO.u0);(case hx=>exact opq))
|fail)
      all_goals first
       | exact ⟨.inr rfl,rfl⟩
       | (exfalso;apply hP;refine ⟨?_,?_,?_⟩ <;> first|assumption|omega)
    ·
     have hno:hideOk m h=false:=by rw [← Bool.not_eq_true,hiff];exact fun h'=>hB ⟨h'.2.2.1,h'.2.2.2.1⟩
     rw [hht,hno,Bool.false_and,Bool.false_and]
     rcases Int.lt_or_le h.col 0 with b1|b1
     ·
      repeat' (first
|(with_reducible first|apply EvK.seq|apply EvK.block)
|((with_reducible apply EvK.text);(try case hm=>exact rfl))
|((with_reducible apply EvK.drawn);(case hm=>exact rfl))
|((with_reducible apply EvK.drawnD);(case hm|he=>exact rfl))
|(with_reducible first|apply EvK.skip|apply EvK.ret|apply thenK_n|apply thenK_r|apply blockK_r)
|((with_reducible apply EvK.cond_t);(case hc=>exact rfl))
|((with_reducible apply EvK.cond_f);(case hc=>exact rfl))
|((with_reducible apply EvO.spd_t);(case hp=>exact fao))
|((with_reducible apply EvO.spd_f);(case hp=>exact fao))
|((with_reducible apply EvO.spn) <;> intro hq)
|((with_reducible apply EvO.spd_yt);(case hp=>exact fao))
|((with_reducible apply EvO.spd_yf);(case hp=>exact fao))
|((with_reducible apply EvO.spn_y) <;> intro hq)
|(with_reducible apply EvO.nilT)
|((with_reducible apply EvO.gf);(case hW=>exact rfl))
|((with_reducible apply EvOF.nilET);(case hck=>kernel_rfl))
|((with_reducible apply EvOF.u);(case hfl=>kernel_rfl);(case hx=>exact opq))
|((with_reducible apply EvO.gt0);(case hW=>exact rfl);(case hx=>exact opq))
|((with_reducible apply EvO.u0);(case hx=>exact opq))
|fail)
      all_goals exact ⟨.inr rfl,rfl⟩
     ·
      rcases Int.lt_or_le h.col t.cols.length with b2|b2
      ·
       have b3:u.cols.length≠1:=fun e=>hB ⟨⟨b1,b2⟩,e⟩
       repeat' (first
|(with_reducible first|apply EvK.seq|apply EvK.block)
|((with_reducible apply EvK.text);(try case hm=>exact rfl))
|((with_reducible apply EvK.drawn);(case hm=>exact rfl))
|((with_reducible apply EvK.drawnD);(case hm|he=>exact rfl))
|(with_reducible first|apply EvK.skip|apply EvK.ret|apply thenK_n|apply thenK_r|apply blockK_r)
|((with_reducible apply EvK.cond_t);(case hc=>exact rfl))
|((with_reducible apply EvK.cond_f);(case hc=>exact rfl))
|((with_reducible apply EvO.spd_t);(case hp=>exact fao))
|((with_reducible apply EvO.spd_f);(case hp=>exact fao))
|((with_reducible apply EvO.spn) <;> intro hq)
|((with_reducible apply EvO.spd_yf);(case hp=>exact fao))
|((with_reducible apply EvO.spn_yt);(case hp=>exact fao))
|((with_reducible apply EvO.spn_y) <;> intro hq)
|(with_reducible apply EvO.nilT)
|((with_reducible apply EvO.gf);(case hW=>exact rfl))
|((with_reducible apply EvOF.nilET);(case hck=>kernel_rfl))
|((with_reducible apply EvOF.u);(case hfl=>kernel_rfl);(case hx=>exact opq))
|((with_reducible apply EvO.gt0);(case hW=>exact rfl);(case hx=>exact opq))
|((with_reducible apply EvO.u0);(case hx=>exact opq))
|fail)
       all_goals exact ⟨.inr rfl,rfl⟩
      ·
       repeat' (first
|(with_reducible first|apply EvK.seq|apply EvK.block)
|((with_reducible apply EvK.text);(try case hm=>exact rfl))
|((with_reducible apply EvK.drawn);(case hm=>exact rfl))
|((with_reducible apply EvK.drawnD);(case hm|he=>exact rfl))
|(with_reducible first|apply EvK.skip|apply EvK.ret|apply thenK_n|apply thenK_r|apply blockK_r)
|((with_reducible apply EvK.cond_t);(case hc=>exact rfl))
|((with_reducible apply EvK.cond_f);(case hc=>exact rfl))
|((with_reducible apply EvO.spd_t);(case hp=>exact fao))
|((with_reducible apply EvO.spd_f);(case hp=>exact fao))
|((with_reducible apply EvO.spn) <;> intro hq)
|((with_reducible apply EvO.spd_yt);(case hp=>exact fao))
|((with_reducible apply EvO.spd_yf);(case hp=>exact fao))
|((with_reducible apply EvO.spn_y) <;> intro hq)
|(with_reducible apply EvO.nilT)
|((with_reducible apply EvO.gf);(case hW=>exact rfl))
|((with_reducible apply EvOF.nilET);(case hck=>kernel_rfl))
|((with_reducible apply EvOF.u);(case hfl=>kernel_rfl);(case hx=>exact opq))
|((with_reducible apply EvO.gt0);(case hW=>exact rfl);(case hx=>exact opq))
|((with_reducible apply EvO.u0);(case hx=>exact opq))
|fail)
       all_goals exact ⟨.inr rfl,rfl⟩
   ·
    have hno:=hideOk_no hA
    rw [hht,hno,Bool.false_and,Bool.false_and]
    repeat' (first
|(with_reducible first|apply EvK.seq|apply EvK.block)
|((with_reducible apply EvK.text);(try case hm=>exact rfl))
|(with_reducible first|apply EvK.skip|apply EvK.ret|apply thenK_n|apply thenK_r|apply blockK_r)
|((with_reducible apply EvK.cond_t);(case hc=>exact rfl))
|((with_reducible apply EvO.spd_t);(case hp=>exact fao))
|((with_reducible apply EvO.spd) <;> intro hq)
|((with_reducible apply EvO.spd_yt);(case hp=>exact fao))
|((with_reducible apply EvO.spd_y) <;> intro hq)
|(with_reducible apply EvO.nilT)
|((with_reducible apply EvO.gf);(case hW=>exact rfl))
|((with_reducible apply EvO.gt0);(case hW=>exact rfl);(case hx=>exact opq))
|((with_reducible apply EvO.u0);(case hx=>exact opq))
|fail)
    all_goals first
     | exact ⟨.inr rfl,rfl⟩
     | (exfalso;omega)
  ·
   rw [alle _ h3,Bool.true_and,← hY]
   obtain ⟨f,hf⟩:∃ f:Hde→Bool,(fun h=>!leadsB m.hides m.tables.length h.to h.table)=f:=⟨_,rfl⟩
   rw [hf]
   repeat' (first
|(with_reducible first|apply EvK.seq|apply EvK.block)
|((with_reducible apply EvK.text);(try case hm=>exact rfl))
|(with_reducible first|apply EvK.exit|apply thenK_n|apply thenK_e|apply blockK_h)
|((with_reducible apply EvK.cond_f);(case hc=>exact rfl))
|((with_reducible apply EvO.spd_f);(case hp=>exact fao))
|(with_reducible apply EvO.nilT)
|((with_reducible apply EvO.u0);(case hx=>exact opq))
|fail)
   apply EvK.loopV
   case ho=>exact rfl
   case hp=>exact rfl
   case hl=>exact rfl
   case hs=>exact slt
   refine EvL.ind (fun q:Nat=>[(7,.t (.int .i64 (q:Int)))]) (fun q=>q≤m.hides.length∧(m.hides.drop 0).all f=(m.hides.drop q).all f) (fun q=>m.hides.length - q) 0 rfl ⟨by omega,rfl⟩ (fun q hq=>?_)
   obtain ⟨g1,g2⟩:=hq
   rw [g2]
   rcases Nat.lt_or_ge q m.hides.length with g3|g3
   ·
    obtain ⟨h,hh⟩:=get_of_lt g3
    have hhc:=hdE_get hh
    have hht:=all_hit f hh
    have kl:=kL h.to h.table
    have hfe:f h=!leadsB m.hides m.tables.length h.to h.table:=by rw [← hf]
    obtain ⟨r,hr⟩:∃ r,leadsB m.hides m.tables.length h.to h.table=r:=⟨_,rfl⟩
    rw [hr] at kl
    rw [hr] at hfe
    rw [hfe] at hht
    rw [hht]
    cases r with
    | true=>
     repeat' (first
|(with_reducible first|apply EvK.seq|apply EvK.block)
|((with_reducible apply EvK.text);(try case hm=>exact rfl))
|((with_reducible apply EvK.drawn);(case hm=>exact rfl))
|(with_reducible first|apply EvK.skip|apply EvK.ret|apply thenK_n|apply thenK_r|apply blockK_r)
|((with_reducible apply EvK.cond_t);(case hc=>exact rfl))
|((with_reducible apply EvO.spd_t);(case hp=>exact fao))
|(with_reducible apply EvO.nilT)
|((with_reducible apply EvO.u0);(case hx=>first
|(exact oqF kl)
|exact opq))
|fail)
     exact ⟨.inr rfl,rfl⟩
    | false=>
     repeat' (first
|(with_reducible first|apply EvK.seq|apply EvK.block)
|((with_reducible apply EvK.text);(try case hm=>exact rfl))
|((with_reducible apply EvK.drawn);(case hm=>exact rfl))
|(with_reducible first|apply EvK.skip|apply thenK_n|apply blockK_n)
|((with_reducible apply EvK.cond_t);(case hc=>exact rfl))
|((with_reducible apply EvK.cond_f);(case hc=>exact rfl))
|((with_reducible apply EvO.spd_t);(case hp=>exact fao))
|(with_reducible apply EvO.nilT)
|((with_reducible apply EvO.u0);(case hx=>first
|(exact oqF kl)
|exact opq))
|fail)
     exact ⟨q+1,rfl,rfl,⟨by omega,rfl⟩,by omega⟩
   ·
    rw [alle _ g3]
    repeat' (first
|(with_reducible apply EvK.seq)
|((with_reducible apply EvK.text);(try case hm=>exact rfl))
|(with_reducible first|apply EvK.exit|apply EvK.ret|apply thenK_n|apply thenK_e|apply blockK_h)
|((with_reducible apply EvK.cond_f);(case hc=>exact rfl))
|((with_reducible apply EvO.spd_f);(case hp=>exact fao))
|(with_reducible apply EvO.nilT)
|((with_reducible apply EvO.u0);(case hx=>exact opq))
|fail)
    exact ⟨.inr rfl,rfl⟩
 ·
  have e0:hidesB m=false:=by unfold hidesB;rw [decide_eq_false h12];rfl
  rw [e0]
  repeat' (first
|(with_reducible apply EvK.seq)
|((with_reducible apply EvK.text);(try case hm=>exact rfl))
|(with_reducible first|apply EvK.ret|apply thenK_r)
|((with_reducible apply EvK.cond_t);(case hc=>exact rfl))
|((with_reducible apply EvO.spd_t);(case hp=>exact fao))
|(with_reducible apply EvO.nilT)
|((with_reducible apply EvO.u0);(case hx=>exact opq))
|fail)
  exact ⟨.inr rfl,rfl⟩
end Go.Proofs.YtgbfedgghjcdcaaGreatDoor
