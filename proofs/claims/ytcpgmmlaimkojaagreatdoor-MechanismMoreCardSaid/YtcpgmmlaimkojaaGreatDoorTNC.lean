/- The reference's models,part by part,as contracts: ranges,sets,lists in order,graphs,chains of references. No condition. -/
import Derived.Test.YtcpgmmlaimkojaaGreatDoorTN
set_option linter.unusedSimpArgs false
set_option linter.unusedVariables false
set_option linter.unusedSectionVars false
namespace Go.Proofs.YtcpgmmlaimkojaaGreatDoor
open Go.RowKit
set_option maxRecDepth 100000
set_option maxHeartbeats 16000000
theorem mdA_eq (m:Md):mdA m=.agg [intsA m.sorts,.arr (tbE m.tables),.arr (nmE m.fams),.arr (cnE m.cons),.arr (opE m.ops),.arr (acE m.acts),.arr (hdE m.hides)]:=rfl
theorem rmstr_c {m:Md} (h:MdL m):Cl cfg 82 [.t (mdA m)] [] (.ls 0) [.row false false 2 (rgE (rngs m.sorts m.tables true))]:=by
 have kr:=rrngs_c (S:=m.sorts) (L:=m.tables) true (by have:=h.sorts;omega) (by have:=h.tables;omega) (fun t ht=>by have:=h.cols t ht;omega)
 rw [mdA_eq]
 refine Cl.of_body rfl Tryz.func82 rfl rfl rfl ?_
 exact drv
theorem rset_c (k:Int):Cl cfg 154 [.t (.int .i64 k)] [] (.t (.bool (setK k))) []:=by
 refine Cl.of_body rfl Tryz.func154 rfl rfl rfl ?_
 repeat' (first
|(with_reducible apply EvK.seq)
|((with_reducible apply EvK.text);(try case hm=>exact rfl))
|(with_reducible apply EvK.ret)
|((with_reducible apply EvO.spd) <;> intro hq)
|((with_reducible apply EvO.spd_y) <;> intro hq)
|(with_reducible apply EvO.nilT)
|((with_reducible apply EvO.gf);(case hW=>exact rfl))
|((with_reducible apply EvO.gt0);(case hW=>exact rfl);(case hx=>exact opq))
|((with_reducible apply EvO.u0);(case hx=>exact opq))
|fail)
 all_goals (refine fin_b (.inr rfl) rfl ?_;unfold setK;first|(simp_all;done)|(simp_all;omega))
theorem lessL_hit {A B:List Int} {q:Nat} {x y:Int} (hx:A[q]?=some x) (hy:B[q]?=some y):lessL (A.drop q) (B.drop q)=if x=y then lessL (A.drop (q+1)) (B.drop (q+1)) else decide (x < y):=by
 rw [drop_get hx,drop_get hy];rfl
theorem lessL_end {A B:List Int} {q:Nat} (hA:q≤A.length) (hB:q≤B.length) (h:A.length≤q∨B.length≤q):lessL (A.drop q) (B.drop q)=decide (A.length < B.length):=by
 rcases Nat.lt_or_ge q B.length with h1|h1
 ·have h2:A.length≤q:=by omega
  rw [drop_end h2]
  obtain ⟨y,hy⟩:=get_of_lt h1
  rw [drop_get hy,decide_eq_true (show A.length < B.length by omega)]
  rfl
 ·rw [drop_end h1,decide_eq_false (show ¬ A.length < B.length by omega)]
  cases A.drop q <;> rfl
theorem rless_c {A B:List Int} (hA:A.length≤140737488351232) (hB:B.length≤140737488351232):Cl cfg 134 [.t (intsA A),.t (intsA B)] [] (.t (.bool (lessL A B))) []:=by
 have hlA:=intsE_len A
 have hlB:=intsE_len B
 have e0:lessL A B=lessL (A.drop 0) (B.drop 0):=rfl
 rw [e0]
 refine Cl.of_body rfl Tryz.func134 rfl rfl rfl ?_
 refine drvR ?_
 refine EvL.ind (fun q:Nat=>[(5,.t (.int .i64 (q:Int)))]) (fun q=>q≤A.length∧q≤B.length∧lessL (A.drop 0) (B.drop 0)=lessL (A.drop q) (B.drop q)) (fun q=>A.length - q) 0 rfl ⟨by omega,by omega,rfl⟩ (fun q hq=>?_)
 obtain ⟨h1,h2,h3⟩:=hq
 rw [h3]
 by_cases h4:q < A.length∧q < B.length
 ·
  obtain ⟨h5,h6⟩:=h4
  obtain ⟨x,hx⟩:=get_of_lt h5
  obtain ⟨y,hy⟩:=get_of_lt h6
  have hcx:=intsE_get hx
  have hcy:=intsE_get hy
  rw [lessL_hit hx hy]
  by_cases he:x=y
  ·
   rw [if_pos he]
   refine drvR ?_
   exact ⟨q+1,rfl,rfl,⟨by omega,by omega,rfl⟩,by omega⟩
  ·
   rw [if_neg he]
   repeat' (first
|(with_reducible first|apply EvK.seq|apply EvK.block)
|((with_reducible apply EvK.text);(try case hm=>exact rfl))
|((with_reducible apply EvK.drawn);(case hm=>exact rfl))
|(with_reducible first|apply EvK.skip|apply EvK.ret|apply thenK_n|apply thenK_r|apply blockK_r)
|((with_reducible apply EvK.cond_t);(case hc=>exact rfl))
|((with_reducible apply EvO.spd_t);(case hp=>exact fao))
|((with_reducible apply EvO.spd) <;> intro hq)
|((with_reducible apply EvO.spn_t);(case hp=>exact fao))
|((with_reducible apply EvO.spd_yt);(case hp=>exact fao))
|(with_reducible apply EvO.nilT)
|((with_reducible apply EvO.gt0);(case hW=>exact rfl);(case hx=>exact opq))
|((with_reducible apply EvO.u0);(case hx=>exact opq))
|fail)
   all_goals (refine fin_b (.inr rfl) rfl ?_;simp_all;try omega)
 ·
  rw [lessL_end h1 h2 (by omega)]
  rcases Nat.lt_or_ge q A.length with h5|h5
  ·
   exact drv
  ·
   exact drv
theorem graphT_iff {S:List Int} {c:Cn} {t:Tb}:graphT S c t=true↔t.kind=0∧t.cols.length=2∧t.cols.getD 0 0=t.cols.getD 1 0∧t.first=c.first∧S.getD (t.cols.getD 0 0).toNat 0=c.size:=by
 unfold graphT
 simp only [Bool.and_eq_true,decide_eq_true_eq]
theorem len2 {l:List Int} (h:l.length=2):∃ a b,l=[a,b]:=by
 match l,h with
 | [a,b],_=>exact ⟨a,b,rfl⟩
theorem rgraph_c {m:Md} {c:Cn} (hm:MdL m) (hv:layB m.sorts m.tables=true) (hc:c.row.terms.length≤140737488351232):Cl cfg 132 [.t (mdA m),.t (.agg (cnC c))] [] (.t (.bool (graphB m c))) []:=by
 obtain ⟨kd,fm,⟨T,bd⟩,fi,sz⟩:=c
 have hT:=tmE_len T
 have hc:T.length≤140737488351232:=hc
 have hlS:=intsE_len m.sorts
 have hlL:=tbE_len m.tables
 have hfew:=lay_few hv
 rw [mdA_eq]
 have e1:cnC ⟨kd,fm,⟨T,bd⟩,fi,sz⟩=[.int .i64 kd,.int .i64 fm,.arr (tmE T),.int .i64 bd,.int .i64 fi,.int .i64 sz]:=rfl
 rw [e1]
 refine Cl.of_body rfl Tryz.func132 rfl rfl rfl ?_
 by_cases h0:T.length=0∧bd=0
 ·
  obtain ⟨h01,rfl⟩:=h0
  obtain ⟨C,hC⟩:∃ C:Cn,(⟨kd,fm,⟨T,0⟩,fi,sz⟩:Cn)=C:=⟨_,rfl⟩
  have hg:graphB m C=(m.tables.drop 0).any (graphT m.sorts C):=by
   rw [← hC]
   unfold graphB
   simp [h01]
  have hCf:C.first=fi:=by rw [← hC]
  have hCs:C.size=sz:=by rw [← hC]
  rw [hC,hg]
  refine drvR ?_
  refine EvL.ind (fun q:Nat=>[(5,.t (.int .i64 (q:Int)))]) (fun q=>q≤m.tables.length∧(m.tables.drop 0).any (graphT m.sorts C)=(m.tables.drop q).any (graphT m.sorts C)) (fun q=>m.tables.length - q) 0 rfl ⟨by omega,rfl⟩ (fun q hq=>?_)
  obtain ⟨h1,h2⟩:=hq
  rw [h2]
  rcases Nat.lt_or_ge q m.tables.length with h3|h3
  ·
   obtain ⟨t,ht⟩:=get_of_lt h3
   have htc:=tbE_get ht
   have hht:=any_hit (graphT m.sorts C) ht
   obtain ⟨c1,c2,c3⟩:=lay_cols hv ht
   have hlC:=intsE_len t.cols
   by_cases hl:t.cols.length=2
   ·
    obtain ⟨a,b,hab⟩:=len2 hl
    rw [hab] at c3
    simp only [List.all_cons,Bool.and_eq_true] at c3
    have hco:=c3.1
    simp only [colOk,Bool.and_eq_true,decide_eq_true_eq] at hco
    obtain ⟨g3,g4⟩:=hco
    obtain ⟨s,hsk⟩:=get_of_lt (xs:=m.sorts) (k:=a.toNat) (by omega)
    have hsc:=intsE_get hsk
    have hP:graphT m.sorts C t=true↔t.kind=0∧a=b∧t.first=fi∧s=sz:=by
     have ea:t.cols.getD 0 0=a:=by rw [hab];rfl
     have eb:t.cols.getD 1 0=b:=by rw [hab];rfl
     rw [graphT_iff,ea,eb,hCf,hCs,getD_get hsk]
     simp [hl]
    have hca:(intsE t.cols)[0]?=some [.int .i64 a]:=intsE_get (by rw [hab];rfl)
    have hcb:(intsE t.cols)[1]?=some [.int .i64 b]:=intsE_get (by rw [hab];rfl)
    by_cases hg':t.kind=0∧a=b∧t.first=fi∧s=sz
    ·
     rw [hht,hP.2 hg',Bool.true_or]
     obtain ⟨k1,k2,k3,k4⟩:=hg'
     exact drv
    ·
     have hf:graphT m.sorts C t=false:=by rw [← Bool.not_eq_true,hP];exact hg'
     rw [hht,hf,Bool.false_or]
     repeat' (first
|(with_reducible first|apply EvK.seq|apply EvK.block)
|((with_reducible apply EvK.text);(try case hm=>exact rfl))
|((with_reducible apply EvK.drawn);(case hm=>exact rfl))
|(with_reducible first|apply EvK.skip|apply thenK_n|apply blockK_n)
|((with_reducible apply EvK.cond_t);(case hc=>exact rfl))
|((with_reducible apply EvK.cond_f);(case hc=>exact rfl))
|((with_reducible apply EvO.spd_t);(case hp=>exact fao))
|((with_reducible apply EvO.spd) <;> intro hq)
|((with_reducible apply EvO.spd_yt);(case hp=>exact fao))
|((with_reducible apply EvO.spd_yf);(case hp=>exact fao))
|((with_reducible apply EvO.spd_y) <;> intro hq)
|(with_reducible apply EvO.nilT)
|((with_reducible apply EvO.gf);(case hW=>exact rfl))
|((with_reducible apply EvO.gt0);(case hW=>exact rfl);(case hx=>exact opq))
|((with_reducible apply EvO.u0);(case hx=>exact opq))
|fail)
     all_goals first
      | exact ⟨q+1,rfl,rfl,⟨by omega,rfl⟩,by omega⟩
      | (exfalso;apply hg';refine ⟨?_,?_,?_,?_⟩ <;> first|assumption|omega)
   ·
    have hf:graphT m.sorts C t=false:=by rw [← Bool.not_eq_true,graphT_iff];exact fun h=>hl h.2.1
    rw [hht,hf,Bool.false_or]
    exact drv
  ·
   rw [any_end _ h3]
   exact drv
 ·
  have hg:graphB m ⟨kd,fm,⟨T,bd⟩,fi,sz⟩=false:=by
   rw [← Bool.not_eq_true]
   unfold graphB
   simp only [Bool.and_eq_true,decide_eq_true_eq]
   exact fun h=>h0 h.1
  rw [hg]
  repeat' (first
|(with_reducible apply EvK.seq)
|((with_reducible apply EvK.text);(try case hm=>exact rfl))
|(with_reducible first|apply EvK.ret|apply thenK_r)
|((with_reducible apply EvK.cond_t);(case hc=>exact rfl))
|((with_reducible apply EvO.spd) <;> intro hq)
|((with_reducible apply EvO.spn_yt);(case hp=>exact fao))
|(with_reducible apply EvO.nilT)
|((with_reducible apply EvO.gf);(case hW=>exact rfl))
|((with_reducible apply EvO.gt0);(case hW=>exact rfl);(case hx=>exact opq))
|((with_reducible apply EvO.u0);(case hx=>exact opq))
|fail)
  all_goals first
   | exact ⟨.inr rfl,rfl⟩
   | (exfalso;apply h0;constructor <;> omega)
theorem leads_eq (l:List Hde) (n:Nat) (a b:Int):leadsB l (n+1) a b=(decide (a=b) || (l.drop 0).any fun h=>decide (h.table=a) && leadsB l n h.to b):=rfl
theorem rleads_c {m:Md} (hm:MdL m):∀ (n:Nat) (N a b:Int),N=n→n≤1000→Cl cfg 136 [.t (mdA m),.t (.int .i64 a),.t (.int .i64 b),.t (.int .i64 N)] [] (.t (.bool (leadsB m.hides n a b))) []:=by
 intro n
 have hlH:=hdE_len m.hides
 have hml:=hm.hides
 rw [mdA_eq]
 induction n with
 | zero=>
  intro N a b hN hn
  have e1:leadsB m.hides 0 a b=decide (a=b):=rfl
  rw [e1]
  refine Cl.of_body rfl Tryz.func136 rfl rfl rfl ?_
  by_cases he:a=b
  ·
   rw [decide_eq_true he]
   exact drv
  ·
   rw [decide_eq_false he]
   refine drvR ?_
   refine EvL.step ?_
   exact drv
 | succ n ih=>
  intro N a b hN hn
  rw [leads_eq]
  refine Cl.of_body rfl Tryz.func136 rfl rfl rfl ?_
  by_cases he:a=b
  ·
   rw [decide_eq_true he,Bool.true_or]
   exact drv
  ·
   rw [decide_eq_false he,Bool.false_or]
   obtain ⟨f,hf⟩:∃ f:Hde→Bool,(fun h=>decide (h.table=a) && leadsB m.hides n h.to b)=f:=⟨_,rfl⟩
   rw [hf]
   refine drvR ?_
   refine EvL.ind (fun q:Nat=>[(9,.t (.int .i64 (q:Int)))]) (fun q=>q≤m.hides.length∧(m.hides.drop 0).any f=(m.hides.drop q).any f) (fun q=>m.hides.length - q) 0 rfl ⟨by omega,rfl⟩ (fun q hq=>?_)
   obtain ⟨h1,h2⟩:=hq
   rw [h2]
   rcases Nat.lt_or_ge q m.hides.length with h3|h3
   ·
    obtain ⟨h,hh⟩:=get_of_lt h3
    have hhc:=hdE_get hh
    have hht:=any_hit f hh
    have kl:=ih (N - 1) h.to b (by omega) (by omega)
    have hfe:f h=(decide (h.table=a) && leadsB m.hides n h.to b):=by rw [← hf]
    obtain ⟨r,hr⟩:∃ r,leadsB m.hides n h.to b=r:=⟨_,rfl⟩
    rw [hr] at kl hfe
    by_cases hta:h.table=a
    ·
     rw [decide_eq_true hta,Bool.true_and] at hfe
     rw [hfe] at hht
     cases r with
     | true=>
      rw [hht,Bool.true_or]
      exact drv
     | false=>
      rw [Bool.false_or] at hht
      rw [hht]
      exact drv
    ·
     rw [decide_eq_false hta,Bool.false_and] at hfe
     rw [hfe,Bool.false_or] at hht
     rw [hht]
     exact drv
   ·
    rw [any_end _ h3]
    exact drv
end Go.Proofs.YtcpgmmlaimkojaaGreatDoor
namespace Go.Proofs.YtcpgmmlaimkojaaGreatDoor
open Go.RowKit
set_option maxRecDepth 100000
set_option maxHeartbeats 16000000
theorem idxOk_iff {i:Int} {n:Nat}:idxOk i n=true↔0≤i∧i < n:=by
 unfold idxOk
 simp only [Bool.and_eq_true,decide_eq_true_eq]
theorem hideOk_no {m:Md} {h:Hde} (hn:¬ (0≤h.table∧h.table < m.tables.length∧0≤h.to∧h.to < m.tables.length∧h.table≠h.to)):hideOk m h=false:=by
 rw [← Bool.not_eq_true]
 intro ho
 unfold hideOk at ho
 simp only [Bool.and_eq_true,idxOk_iff,Bool.not_eq_true',decide_eq_false_iff_not] at ho
 exact hn ⟨ho.1.1.1,ho.1.1.2,ho.1.2.1.1,ho.1.2.1.2,ho.1.2.2⟩
theorem hideOk_yes {m:Md} {h:Hde} {t u:Tb} (hA:0≤h.table∧h.table < m.tables.length∧0≤h.to∧h.to < m.tables.length∧h.table≠h.to) (ht:m.tables[h.table.toNat]?=some t) (hu:m.tables[h.to.toNat]?=some u):hideOk m h=true↔t.kind=0∧u.kind=0∧(0≤h.col∧h.col < t.cols.length)∧u.cols.length=1∧u.cols.getD 0 0=t.cols.getD h.col.toNat 0:=by
 unfold hideOk
 rw [List.getD_eq_getElem?_getD,List.getD_eq_getElem?_getD,ht,hu]
 simp only [Bool.and_eq_true,idxOk_iff,Bool.not_eq_true',decide_eq_false_iff_not,decide_eq_true_eq,Option.getD_some]
 constructor
 ·rintro ⟨_,⟨h1,h2⟩,h3,h4,h5⟩
  exact ⟨h1,h2,h3,h4,h5⟩
 ·rintro ⟨h1,h2,h3,h4,h5⟩
  exact ⟨⟨⟨hA.1,hA.2.1⟩,⟨hA.2.2.1,hA.2.2.2.1⟩,hA.2.2.2.2⟩,⟨h1,h2⟩,h3,h4,h5⟩
theorem len1 {l:List Int} (h:l.length=1):∃ a,l=[a]:=by
 match l,h with
 | [a],_=>exact ⟨a,rfl⟩
theorem rhidden_c {m:Md} (hm:MdL m) (hv:layB m.sorts m.tables=true):Cl cfg 100 [.t (mdA m)] [] (.t (.bool (hidesB m))) []:=by
 have hlH:=hdE_len m.hides
 have hlL:=tbE_len m.tables
 have hfew:=lay_few hv
 have kL:=fun a b=>rleads_c hm m.tables.length (m.tables.length:Int) a b rfl (by omega)
 rw [mdA_eq] at kL ⊢
 refine Cl.of_body rfl Tryz.func100 rfl rfl rfl ?_
 by_cases h12:m.hides.length≤12
 ·
  have e0:hidesB m=((m.hides.drop 0).all (hideOk m) && (m.hides.drop 0).all fun h=>!leadsB m.hides m.tables.length h.to h.table):=by unfold hidesB;simp [h12]
  obtain ⟨Y,hY⟩:∃ Y,((m.hides.drop 0).all fun h=>!leadsB m.hides m.tables.length h.to h.table)=Y:=⟨_,rfl⟩
  rw [e0,hY]
  refine drvR ?_
  refine EvL.ind (fun q:Nat=>[(3,.t (.int .i64 (q:Int)))]) (fun q=>q≤m.hides.length∧(m.hides.drop 0).all (hideOk m)=(m.hides.drop q).all (hideOk m)) (fun q=>m.hides.length - q) 0 rfl ⟨by omega,rfl⟩ (fun q hq=>?_)
  obtain ⟨h1,h2⟩:=hq
  rw [h2]
  rcases Nat.lt_or_ge q m.hides.length with h3|h3
  ·
   obtain ⟨h,hh⟩:=get_of_lt h3
   have hhc:=hdE_get hh
   have hht:=all_hit (hideOk m) hh
   by_cases hA:0≤h.table∧h.table < m.tables.length∧0≤h.to∧h.to < m.tables.length∧h.table≠h.to
   ·
    obtain ⟨t,ht⟩:=get_of_lt (xs:=m.tables) (k:=h.table.toNat) (by omega)
    obtain ⟨u,hu⟩:=get_of_lt (xs:=m.tables) (k:=h.to.toNat) (by omega)
    have htc:=tbE_get ht
    have huc:=tbE_get hu
    have hlt:=intsE_len t.cols
    have hlu:=intsE_len u.cols
    have hiff:=hideOk_yes hA ht hu
    obtain ⟨a1,a2,a3,a4,a5⟩:=hA
    by_cases hB:(0≤h.col∧h.col < t.cols.length)∧u.cols.length=1
    ·
     obtain ⟨⟨b1,b2⟩,b3⟩:=hB
     obtain ⟨y,hy⟩:=len1 b3
     obtain ⟨z,hz⟩:=get_of_lt (xs:=t.cols) (k:=h.col.toNat) (by omega)
     have hyc:(intsE u.cols)[0]?=some [.int .i64 y]:=intsE_get (by rw [hy];rfl)
     have hzc:=intsE_get hz
     have ey:u.cols.getD 0 0=y:=by rw [hy];rfl
     rw [ey,getD_get hz] at hiff
     by_cases hP:t.kind=0∧u.kind=0∧y=z
     ·
      have hok:hideOk m h=true:=hiff.2 ⟨hP.1,hP.2.1,⟨b1,b2⟩,b3,hP.2.2⟩
      rw [hok,Bool.true_and] at hht
      obtain ⟨p1,p2,p3⟩:=hP
      rw [hht]
      exact drv
     ·
      have hno:hideOk m h=false:=by rw [← Bool.not_eq_true,hiff];exact fun h'=>hP ⟨h'.1,h'.2.1,h'.2.2.2.2⟩
      rw [hht,hno,Bool.false_and,Bool.false_and]
      repeat' (first
|(with_reducible first|apply EvK.seq|apply EvK.block)
|((with_reducible apply EvK.text);(try case hm=>exact rfl))
|((with_reducible apply EvK.drawn);(case hm=>exact rfl))
|((with_reducible apply EvK.drawnD);(case hm|he=>exact rfl))
|(with_reducible first|apply EvK.skip|apply EvK.ret|apply thenK_n|apply thenK_r|apply blockK_r)
|((with_reducible apply EvK.cond_t);(case hc=>exact rfl))
|((with_reducible apply EvK.cond_f);(case hc=>exact rfl))
|((with_reducible apply EvO.spd_t);(case hp=>exact fao))
|((with_reducible apply EvO.spd_f);(case hp=>exact fao))
|((with_reducible apply EvO.spn) <;> intro hq)
|((with_reducible apply EvO.spd_yf);(case hp=>exact fao))
|((with_reducible apply EvO.spn_yt);(case hp=>exact fao))
|((with_reducible apply EvO.spn_yf);(case hp=>exact fao))
|((with_reducible apply EvO.spn_y) <;> intro hq)
|(with_reducible apply EvO.nilT)
|((with_reducible apply EvO.gf);(case hW=>exact rfl))
|((with_reducible apply EvOF.nilET);(case hck=>kernel_rfl))
|((with_reducible apply EvOF.u);(case hfl=>kernel_rfl);(case hx=>exact opq))
|((with_reducible apply EvO.gt0);(case hW=>exact rfl);(case hx=>exact opq))
|((with_reducible apply EvO.u0);(case hx=>exact opq))
|fail)
      all_goals first
       | exact ⟨.inr rfl,rfl⟩
       | (exfalso;apply hP;refine ⟨?_,?_,?_⟩ <;> first|assumption|omega)
    ·
     have hno:hideOk m h=false:=by rw [← Bool.not_eq_true,hiff];exact fun h'=>hB ⟨h'.2.2.1,h'.2.2.2.1⟩
     rw [hht,hno,Bool.false_and,Bool.false_and]
     rcases Int.lt_or_le h.col 0 with b1|b1
     ·
      exact drv
     ·
      rcases Int.lt_or_le h.col t.cols.length with b2|b2
      ·
       have b3:u.cols.length≠1:=fun e=>hB ⟨⟨b1,b2⟩,e⟩
       exact drv
      ·
       exact drv
   ·
    have hno:=hideOk_no hA
    rw [hht,hno,Bool.false_and,Bool.false_and]
    repeat' (first
|(with_reducible first|apply EvK.seq|apply EvK.block)
|((with_reducible apply EvK.text);(try case hm=>exact rfl))
|(with_reducible first|apply EvK.skip|apply EvK.ret|apply thenK_n|apply thenK_r|apply blockK_r)
|((with_reducible apply EvK.cond_t);(case hc=>exact rfl))
|((with_reducible apply EvO.spd_t);(case hp=>exact fao))
|((with_reducible apply EvO.spd) <;> intro hq)
|((with_reducible apply EvO.spd_yt);(case hp=>exact fao))
|((with_reducible apply EvO.spd_y) <;> intro hq)
|(with_reducible apply EvO.nilT)
|((with_reducible apply EvO.gf);(case hW=>exact rfl))
|((with_reducible apply EvO.gt0);(case hW=>exact rfl);(case hx=>exact opq))
|((with_reducible apply EvO.u0);(case hx=>exact opq))
|fail)
    all_goals first
     | exact ⟨.inr rfl,rfl⟩
     | (exfalso;omega)
  ·
   rw [alle _ h3,Bool.true_and,← hY]
   obtain ⟨f,hf⟩:∃ f:Hde→Bool,(fun h=>!leadsB m.hides m.tables.length h.to h.table)=f:=⟨_,rfl⟩
   rw [hf]
   refine drvR ?_
   refine EvL.ind (fun q:Nat=>[(7,.t (.int .i64 (q:Int)))]) (fun q=>q≤m.hides.length∧(m.hides.drop 0).all f=(m.hides.drop q).all f) (fun q=>m.hides.length - q) 0 rfl ⟨by omega,rfl⟩ (fun q hq=>?_)
   obtain ⟨g1,g2⟩:=hq
   rw [g2]
   rcases Nat.lt_or_ge q m.hides.length with g3|g3
   ·
    obtain ⟨h,hh⟩:=get_of_lt g3
    have hhc:=hdE_get hh
    have hht:=all_hit f hh
    have kl:=kL h.to h.table
    have hfe:f h=!leadsB m.hides m.tables.length h.to h.table:=by rw [← hf]
    obtain ⟨r,hr⟩:∃ r,leadsB m.hides m.tables.length h.to h.table=r:=⟨_,rfl⟩
    rw [hr] at kl
    rw [hr] at hfe
    rw [hfe] at hht
    rw [hht]
    cases r with
    | true=>
     exact drv
    | false=>
     exact drv
   ·
    rw [alle _ g3]
    exact drv
 ·
  have e0:hidesB m=false:=by unfold hidesB;rw [decide_eq_false h12];rfl
  rw [e0]
  exact drv
end Go.Proofs.YtcpgmmlaimkojaaGreatDoor
