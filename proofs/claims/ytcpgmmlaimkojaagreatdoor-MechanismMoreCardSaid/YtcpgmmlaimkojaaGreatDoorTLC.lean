/- The code's models,part by part,as contracts: names,rows,single rows,graphs. No condition. -/
import Derived.Test.YtcpgmmlaimkojaaGreatDoorTLB
import Derived.Test.YtcpgmmlaimkojaaGreatDoorTM
import Derived.Test.YtcpgmmlaimkojaaGreatDoorTP
import Derived.Test.YtcpgmmlaimkojaaGreatDoorTNC
import Derived.Test.YtcpgmmlaimkojaaGreatDoorTNB
set_option linter.unusedSimpArgs false
set_option linter.unusedVariables false
set_option linter.unusedSectionVars false
namespace Go.Proofs.YtcpgmmlaimkojaaGreatDoor
open Go.RowKit
set_option maxRecDepth 100000
set_option maxHeartbeats 16000000
theorem lyS_snoc {N:List ByteArray} {q:Nat} {s:ByteArray} (h:N[q]?=some s):strK (N.take q)++[.str s]=strK (N.take (q+1)):=by unfold strK;rw [List.take_add_one,h];simp
theorem mdist_c {N:List ByteArray} (hl:N.length≤140737488351232):Cl cfg 85 [.t (.arr (nmE N))] [] (.t (.bool (distB N))) []:=by
 have hN:=nmE_len N
 have e0:distB N=allG (distOk N) 0 (N.drop 0):=rfl
 rw [e0]
 refine Cl.of_body rfl Tryz.func85 rfl rfl rfl ?_
 refine drvR ?_
 refine EvL.indF (fun q:Nat=>[(9,.t (.int .i64 (q:Int)))]) (fun q=>[.map false (strK (N.take q)) (truV q)]) (fun q=>q≤N.length∧allG (distOk N) 0 (N.drop 0)=allG (distOk N) q (N.drop q)) (fun q=>N.length - q) 0 rfl rfl ⟨by omega,rfl⟩ (fun q hq=>?_)
 obtain ⟨h1,h2⟩:=hq
 rw [h2]
 rcases Nat.lt_or_ge q N.length with h3|h3
 ·
  obtain ⟨s,hs⟩:=get_of_lt h3
  have hc:=nmE_get hs
  have kn:=lnames_c s
  have hbad:=distR_bad hs
  have hok:=distR_ok hs
  have hks:=lyS_snoc hs
  have hvs:=truV_snoc q
  cases hn:nmB s with
  | false=>
   rw [hn] at kn
   rw [hbad (fun h=>by rw [hn] at h;cases h.1)]
   exact drv
  | true=>
   rw [hn] at kn
   cases ha:(N.take q).any fun u=>decide (u=s) with
   | true=>
    obtain ⟨j,hf,hj⟩:=fstr_yes ha
    have hz:=truV_at (n:=q) (j:=j) (by rw [List.length_take] at hj;omega)
    rw [hbad (fun h=>by rw [ha] at h;cases h.2)]
    repeat' (first
|(with_reducible first|apply EvK.seq|apply EvK.block)
|((with_reducible apply EvK.text);(try case hm=>exact rfl))
|(with_reducible first|apply EvK.skip|apply EvK.ret|apply thenK_n|apply thenK_r|apply blockK_r)
|((with_reducible apply EvK.cond_t);(case hc=>exact rfl))
|((with_reducible apply EvO.spd_t);(case hp=>exact fao))
|(with_reducible apply EvO.nilT)
|((with_reducible apply EvO.gt0);(case hW=>exact rfl);(case hx=>first
|((with_reducible apply OpR.lki);(case hm|hk|ho=>exact rfl);(case hf=>exact hf);(case hz=>exact hz))
|exact opq))
|((with_reducible apply EvO.u0);(case hx=>first
|(exact oqF kn)
|exact opq))
|fail)
    exact ⟨.inr rfl,rfl⟩
   | false=>
    have hf:=fstr_no ha
    repeat' (first
|(with_reducible first|apply EvK.seq|apply EvK.block)
|((with_reducible apply EvK.text);(try case hm=>exact rfl))
|(with_reducible first|apply EvK.skip|apply thenK_n)
|((with_reducible apply EvK.cond_t);(case hc=>exact rfl))
|((with_reducible apply EvK.cond_f);(case hc=>exact rfl))
|((with_reducible apply EvO.spd_t);(case hp=>exact fao))
|(with_reducible first|apply EvO.nilT|apply EvO.nilB)
|((with_reducible apply EvO.gt0);(case hW=>exact rfl);(case hx=>first
|((with_reducible apply OpR.lk);(case hm|hk|ho=>exact rfl);(case hf=>exact hf);(case hz=>exact rfl))
|exact opq))
|((with_reducible apply EvO.u0);(case hx=>first
|((with_reducible apply OpR.mpk);(case hs=>exact fun _=>rfl);(case hm|ha|hk|hd|hy|hb=>exact rfl);(case hf=>exact hf);(case hks=>exact hks);(case hvs=>exact hvs);(case hfr=>exact leq))
|(exact oqF kn)
|exact opq))
|fail)
    exact ⟨q+1,rfl,rfl,⟨by omega,hok hn ha⟩,by omega⟩
 ·
  rw [allG_end h3]
  exact drv
def jdC (m:Md) (l:List (Int×Int)):List AV:=[intsA m.sorts,.arr (tbE m.tables),.arr (nmE m.fams),.arr (cnE m.cons),.arr (opE m.ops),.arr (acE m.acts),.arr (hdE m.hides),.arr (rgE l)]
theorem jrow_c {m:Md} {l:List (Int×Int)} {r:Rw} (hr:r.terms.length≤140737488351232) (hl:l.length≤100000):Cl cfg 116 [.t (.agg (jdC m l)),.t (.agg (rwC r))] [] (.t (.bool (rowB l.length r))) []:=by
 obtain ⟨T,B⟩:=r
 have e1:rwC ⟨T,B⟩=[.arr (tmE T),.int .i64 B]:=rfl
 have e2:rowB l.length ⟨T,B⟩=(allG (termC l.length T) 0 (T.drop 0) && btw B 1000000000):=by unfold rowB;rw [← term_eqC];rfl
 rw [e1,e2]
 unfold jdC
 have hr:T.length≤140737488351232:=hr
 have hT:=tmE_len T
 have hL:=rgE_len l
 have kB:=maround_c B (m:=1000000000) (.inr (.inl rfl))
 refine Cl.of_body rfl Tryz.func116 rfl rfl rfl ?_
 refine drvR ?_
 refine EvL.ind (fun q:Nat=>[(5,.t (.int .i64 (prevV Tm.cell T q))),(11,.t (.int .i64 (q:Int)))]) (fun q=>q≤T.length∧allG (termC l.length T) 0 (T.drop 0)=allG (termC l.length T) q (T.drop q)) (fun q=>T.length - q) 0 rfl ⟨by omega,rfl⟩ (fun q hq=>?_)
 obtain ⟨h1,h2⟩:=hq
 rw [h2]
 rcases Nat.lt_or_ge q T.length with h3|h3
 ·
  obtain ⟨t,ht⟩:=get_of_lt h3
  have hc:=tmE_get ht
  have kf:=maround_c t.factor (m:=1000) (.inl rfl)
  have hbad:=allG_bad (p:=termC l.length T) ht
  have hok:=allG_ok (p:=termC l.length T) ht
  have hpv:prevV Tm.cell T (q+1)=t.cell:=by simp only [prevV,ht]
  have hiff:termC l.length T q t=true↔prevV Tm.cell T q < t.cell∧t.cell < l.length∧t.factor≠0∧btw t.factor 1000=true:=by
   unfold termC
   simp only [Bool.and_eq_true,Bool.not_eq_true',decide_eq_true_eq,decide_eq_false_iff_not,ne_eq]
  rw [hiff] at hbad hok
  obtain ⟨p,hp⟩:∃ p,prevV Tm.cell T q=p:=⟨_,rfl⟩
  rw [hp] at hbad hok ⊢
  obtain ⟨bf,hbf⟩:∃ b,btw t.factor 1000=b:=⟨_,rfl⟩
  rw [hbf] at kf hbad hok
  cases bf with
  | false=>
   rw [hbad (fun h=>by cases h.2.2.2)]
   exact drv
  | true=>
   repeat' (first
|(with_reducible first|apply EvK.seq|apply EvK.block)
|((with_reducible apply EvK.text);(try case hm=>exact rfl))
|(with_reducible first|apply EvK.skip|apply EvK.ret|apply thenK_n|apply thenK_r|apply blockK_r)
|((with_reducible apply EvK.cond_t);(case hc=>exact rfl))
|((with_reducible apply EvK.cond_f);(case hc=>exact rfl))
|((with_reducible apply EvO.spd_t);(case hp=>exact fao))
|((with_reducible apply EvO.spd) <;> intro hq)
|((with_reducible apply EvO.spd_y) <;> intro hq)
|(with_reducible first|apply EvO.nilT|apply EvO.nilB)
|((with_reducible apply EvO.gf);(case hW=>exact rfl))
|((with_reducible apply EvO.gt0);(case hW=>exact rfl);(case hx=>first
|(exact oqF kf)
|exact opq))
|((with_reducible apply EvO.u0);(case hx=>exact opq))
|fail)
   all_goals first
    | exact fin_b (.inr rfl) rfl (by rw [hbad (fun h=>by obtain ⟨_,_,_,_⟩:=h;omega)];rfl)
    | exact ⟨q+1,by rw [hpv];rfl,rfl,⟨by omega,hok ⟨by omega,by omega,by omega,rfl⟩⟩,by omega⟩
 ·
  rw [allG_end h3]
  exact drv
theorem eqterm_c {A B:List Tm} (hA:A.length≤140737488351232) (hB:B.length≤140737488351232):Cl cfg 145 [.t (.arr (tmE A)),.t (.arr (tmE B))] [] (.t (.bool (decide (A=B)))) []:=by
 refine Cl.of_body rfl Tryz.func145 rfl rfl rfl ?_
 have hlA:=tmE_len A
 have hlB:=tmE_len B
 by_cases hl:A.length=B.length
 ·
  refine drvR ?_
  refine EvL.ind (fun q:Nat=>[(13,.t (.int .i64 (q:Int)))]) (fun q=>q≤A.length∧decide (A=B)=decide (A.drop q=B.drop q)) (fun q=>A.length - q) 0 rfl ⟨by omega,rfl⟩ (fun q hq=>?_)
  obtain ⟨h1,h2⟩:=hq
  rw [h2]
  rcases Nat.lt_or_ge q A.length with h3|h3
  ·
   obtain ⟨x,hx⟩:=get_of_lt h3
   obtain ⟨y,hy⟩:=get_of_lt (xs:=B) (k:=q) (by omega)
   have hc:=tmE_get hx
   have hd:=tmE_get hy
   by_cases he:x=y
   ·
    have ha:decide (A.drop q=B.drop q)=decide (A.drop (q+1)=B.drop (q+1)):=by rw [drop_get hx,drop_get hy,he];simp
    have hte:eqC cfg.P 20 122 [.int .i64 x.cell,.int .i64 x.factor] [.int .i64 y.cell,.int .i64 y.factor]=some true:=by rw [term_eq,he];simp
    repeat' (first
|(with_reducible first|apply EvK.seq|apply EvK.block)
|((with_reducible apply EvK.text);(try case hm=>exact rfl))
|((with_reducible apply EvK.drawn);(case hm=>exact rfl))
|(with_reducible first|apply EvK.skip|apply thenK_n|apply blockK_n)
|((with_reducible apply EvK.cond_t);(case hc=>exact rfl))
|((with_reducible apply EvK.cond_f);(case hc=>exact rfl))
|((with_reducible apply EvO.spd_t);(case hp=>exact fao))
|(with_reducible apply EvO.nilT)
|((with_reducible apply EvO.u0);(case hx=>first
|((with_reducible apply OpR.nes);(case hx|hy=>exact rfl);(case hg=>exact term_g);(case ht=>exact rfl);(case hr=>exact hte))
|exact opq))
|fail)
    exact ⟨q+1,rfl,rfl,⟨by omega,ha⟩,by omega⟩
   ·
    have ha:decide (A.drop q=B.drop q)=false:=by rw [drop_get hx,drop_get hy];simp [he]
    have hte:eqC cfg.P 20 122 [.int .i64 x.cell,.int .i64 x.factor] [.int .i64 y.cell,.int .i64 y.factor]=some false:=by
     rw [term_eq]
     obtain ⟨x1,x2⟩:=x
     obtain ⟨y1,y2⟩:=y
     simp at he ⊢
     exact he
    rw [ha]
    repeat' (first
|(with_reducible first|apply EvK.seq|apply EvK.block)
|((with_reducible apply EvK.text);(try case hm=>exact rfl))
|((with_reducible apply EvK.drawn);(case hm=>exact rfl))
|(with_reducible first|apply EvK.skip|apply EvK.ret|apply thenK_n|apply thenK_r|apply blockK_r)
|((with_reducible apply EvK.cond_t);(case hc=>exact rfl))
|((with_reducible apply EvO.spd_t);(case hp=>exact fao))
|(with_reducible apply EvO.nilT)
|((with_reducible apply EvO.u0);(case hx=>first
|((with_reducible apply OpR.nes);(case hx|hy=>exact rfl);(case hg=>exact term_g);(case ht=>exact rfl);(case hr=>exact hte))
|exact opq))
|fail)
    exact ⟨.inr rfl,rfl⟩
  ·
   have ha:decide (A.drop q=B.drop q)=true:=by rw [drop_end h3,drop_end (l:=B) (by omega)];rfl
   rw [ha]
   exact drv
 ·
  have ha:decide (A=B)=false:=by simp;intro h;exact hl (by rw [h])
  rw [ha]
  exact drv
theorem msingle_c {r:Rw} {c f b:Int} (hr:r.terms.length≤140737488351232):Cl cfg 118 [.t (.agg (rwC r)),.t (.int .i64 c),.t (.int .i64 f),.t (.int .i64 b)] [] (.t (.bool (decide (r=⟨[⟨c,f⟩],b⟩)))) []:=by
 obtain ⟨T,B⟩:=r
 have e1:rwC ⟨T,B⟩=[.arr (tmE T),.int .i64 B]:=rfl
 have hr:T.length≤140737488351232:=hr
 rw [e1]
 have ke:=eqterm_c (A:=T) (B:=[⟨c,f⟩]) hr (by simp)
 have e2:tmE [⟨c,f⟩]=[[.int .i64 c,.int .i64 f]]:=rfl
 rw [e2] at ke
 obtain ⟨d,hd⟩:∃ d,decide (T=[(⟨c,f⟩:Tm)])=d:=⟨_,rfl⟩
 have e3:decide ((⟨T,B⟩:Rw)=⟨[⟨c,f⟩],b⟩)=(d && decide (B=b)):=by
  rw [← hd,Bool.eq_iff_iff]
  simp
 rw [e3]
 rw [hd] at ke
 refine Cl.of_body rfl Tryz.func118 rfl rfl rfl ?_
 cases d with
 | true=>
  repeat' (first
|(with_reducible apply EvK.seq)
|((with_reducible apply EvK.text);(try case hm=>exact rfl))
|(with_reducible apply EvK.ret)
|((with_reducible apply EvO.spd_y) <;> intro hq)
|(with_reducible apply EvO.nilT)
|((with_reducible apply EvO.gt0);(case hW=>exact rfl);(case hx=>exact opq))
|((with_reducible apply EvO.u0);(case hx=>first
|((with_reducible apply OpR.bsl (es:=[[.int .i64 c,.int .i64 f]]));(case hw=>exact rfl);(case ho=>kernel_rfl);(case h=>kernel_rfl))
|(exact oqF ke)
|exact opq))
|fail)
  all_goals (refine fin_b (.inr rfl) rfl ?_;first|(simp_all;done)|(simp_all;omega))
 | false=>
  repeat' (first
|(with_reducible apply EvK.seq)
|((with_reducible apply EvK.text);(try case hm=>exact rfl))
|(with_reducible first|apply EvK.ret|apply EvO.nilT)
|((with_reducible apply EvO.gf);(case hW=>exact rfl))
|((with_reducible apply EvO.u0);(case hx=>first
|((with_reducible apply OpR.bsl (es:=[[.int .i64 c,.int .i64 f]]));(case hw=>exact rfl);(case ho=>kernel_rfl);(case h=>kernel_rfl))
|(exact oqF ke)
|exact opq))
|fail)
  exact ⟨.inr rfl,rfl⟩
theorem jgraph1_c {m:Md} {l:List (Int×Int)} {c:Cn} {t:Tb} (hv:layB m.sorts m.tables=true) (hm:MdL m) (ht:t∈m.tables):Cl cfg 144 [.t (.agg (tbC t)),.t (.tp (cnC c)),.t (.tp (jdC m l))] [] (.t (.bool (graphT m.sorts c t))) []:=by
 obtain ⟨kd,fm,⟨T,bd⟩,fi,sz⟩:=c
 obtain ⟨k,ht⟩:=List.mem_iff_getElem?.1 ht
 have e1:cnC ⟨kd,fm,⟨T,bd⟩,fi,sz⟩=[.int .i64 kd,.int .i64 fm,.arr (tmE T),.int .i64 bd,.int .i64 fi,.int .i64 sz]:=rfl
 have e2:tbC t=[.str t.name,.int .i64 t.kind,intsA t.cols,.int .i64 t.lo,.int .i64 t.hi,.int .i64 t.first]:=rfl
 rw [e1,e2]
 unfold jdC
 obtain ⟨c1,c2,c3⟩:=lay_cols hv ht
 have hlC:=intsE_len t.cols
 have hlS:=intsE_len m.sorts
 have hfew:=lay_few hv
 obtain ⟨C,hC⟩:∃ C:Cn,(⟨kd,fm,⟨T,bd⟩,fi,sz⟩:Cn)=C:=⟨_,rfl⟩
 have hCf:C.first=fi:=by rw [← hC]
 have hCs:C.size=sz:=by rw [← hC]
 rw [hC]
 refine Cl.of_body rfl Tryz.func144 rfl rfl rfl ?_
 by_cases hl:t.cols.length=2
 ·
  obtain ⟨a,b,hab⟩:=len2 hl
  rw [hab] at c3
  simp only [List.all_cons,Bool.and_eq_true] at c3
  have hco:=c3.1
  simp only [colOk,Bool.and_eq_true,decide_eq_true_eq] at hco
  obtain ⟨g3,g4⟩:=hco
  obtain ⟨s,hsk⟩:=get_of_lt (xs:=m.sorts) (k:=a.toNat) (by omega)
  have hsc:=intsE_get hsk
  have hP:graphT m.sorts C t=true↔t.kind=0∧a=b∧t.first=fi∧s=sz:=by
   have ea:t.cols.getD 0 0=a:=by rw [hab];rfl
   have eb:t.cols.getD 1 0=b:=by rw [hab];rfl
   rw [graphT_iff,ea,eb,hCf,hCs,getD_get hsk]
   simp [hl]
  have hca:(intsE t.cols)[0]?=some [.int .i64 a]:=intsE_get (by rw [hab];rfl)
  have hcb:(intsE t.cols)[1]?=some [.int .i64 b]:=intsE_get (by rw [hab];rfl)
  by_cases hg':t.kind=0∧a=b∧t.first=fi∧s=sz
  ·
   rw [hP.2 hg']
   obtain ⟨k1,k2,k3,k4⟩:=hg'
   exact drv
  ·
   have hf:graphT m.sorts C t=false:=by rw [← Bool.not_eq_true,hP];exact hg'
   rw [hf]
   repeat' (first
|(with_reducible apply EvK.seq)
|((with_reducible apply EvK.text);(try case hm=>exact rfl))
|((with_reducible apply EvK.drawn);(case hm=>exact rfl))
|(with_reducible apply EvK.ret)
|((with_reducible apply EvO.spd) <;> intro hq)
|((with_reducible apply EvO.spd_yt);(case hp=>exact fao))
|((with_reducible apply EvO.spd_yf);(case hp=>exact fao))
|((with_reducible apply EvO.spd_y) <;> intro hq)
|(with_reducible apply EvO.nilT)
|((with_reducible apply EvO.gf);(case hW=>exact rfl))
|((with_reducible apply EvO.gt0);(case hW=>exact rfl);(case hx=>exact opq))
|((with_reducible apply EvO.u0);(case hx=>exact opq))
|fail)
   all_goals first
    | exact ⟨.inr rfl,rfl⟩
    | (exfalso;apply hg';refine ⟨?_,?_,?_,?_⟩ <;> first|assumption|omega)
 ·
  have hf:graphT m.sorts C t=false:=by rw [← Bool.not_eq_true,graphT_iff];exact fun h=>hl h.2.1
  rw [hf]
  exact drv
theorem jgraph_c {m:Md} {l:List (Int×Int)} {c:Cn} (hm:MdL m) (hv:layB m.sorts m.tables=true) (hc:c.row.terms.length≤140737488351232):Cl cfg 117 [.t (.agg (jdC m l)),.t (.agg (cnC c))] [] (.t (.bool (graphB m c))) []:=by
 have kg:=congraph_c (C:=m.tables) (p:=graphT m.sorts c) (c1:=.tp (cnC c)) (c2:=.tp (jdC m l)) (by have:=hm.tables;omega) (fun t ht=>jgraph1_c hv hm ht)
 obtain ⟨g,hg⟩:∃ g,m.tables.any (graphT m.sorts c)=g:=⟨_,rfl⟩
 have e0:graphB m c=((decide (c.row.terms.length=0) && decide (c.row.bound=0)) && g):=by unfold graphB;rw [hg]
 rw [hg] at kg
 rw [e0]
 obtain ⟨kd,fm,⟨T,bd⟩,fi,sz⟩:=c
 have hT:=tmE_len T
 have hc:T.length≤140737488351232:=hc
 have e1:cnC ⟨kd,fm,⟨T,bd⟩,fi,sz⟩=[.int .i64 kd,.int .i64 fm,.arr (tmE T),.int .i64 bd,.int .i64 fi,.int .i64 sz]:=rfl
 rw [e1] at kg ⊢
 unfold jdC at kg ⊢
 refine Cl.of_body rfl Tryz.func117 rfl rfl rfl ?_
 by_cases h0:T.length=0∧bd=0
 ·
  obtain ⟨h01,rfl⟩:=h0
  rw [decide_eq_true h01]
  exact drv
 ·
  have hno:(decide (T.length=0) && decide (bd=0))=false:=by
   rw [← Bool.not_eq_true,Bool.and_eq_true,decide_eq_true_eq,decide_eq_true_eq];exact h0
  rw [hno]
  repeat' (first
|(with_reducible apply EvK.seq)
|((with_reducible apply EvK.text);(try case hm=>exact rfl))
|(with_reducible apply EvK.ret)
|((with_reducible apply EvO.spd) <;> intro hq)
|((with_reducible apply EvO.spd_yf);(case hp=>exact fao))
|(with_reducible apply EvO.nilT)
|((with_reducible apply EvO.gf);(case hW=>exact rfl))
|((with_reducible apply EvO.gt0);(case hW=>exact rfl);(case hx=>exact opq))
|((with_reducible apply EvO.u0);(case hx=>exact opq))
|fail)
  all_goals first
   | exact ⟨.inr rfl,rfl⟩
   | (exfalso;apply h0;constructor <;> omega)
end Go.Proofs.YtcpgmmlaimkojaaGreatDoor
namespace Go.Proofs.YtcpgmmlaimkojaaGreatDoor
open Go.RowKit
set_option maxRecDepth 100000
set_option maxHeartbeats 32000000
theorem updT_set {u:Upd} {t:Tb} (h:t.kind=2∨t.kind=3):updT u t=((decide (u.kind=0) || decide (u.kind=1)) && decide (u.value=0)):=by
 unfold updT setK
 rw [if_pos (by rcases h with h|h <;> simp [h])]
theorem updT_reg {u:Upd} {t:Tb} (h:¬ (t.kind=2∨t.kind=3)):updT u t=(decide (u.kind=2) && (decide (t.lo≤u.value) && decide (u.value≤t.hi))):=by
 unfold updT setK
 rw [if_neg]
 rw [Bool.or_eq_true,decide_eq_true_eq,decide_eq_true_eq]
 exact h
theorem jupd_c {m:Md} {l:List (Int×Int)} {u:Upd} (hv:layB m.sorts m.tables=true) (hm:MdL m) (hc:u.cell≤9223372036854775807):Cl cfg 147 [.t (.agg (jdC m l)),.t (.agg (udC u))] [] (.t (.bool (updB m u))) []:=by
 have kt:=ctuple_c (s:=false) (c:=u.cell) hv hc
 have e1:udC u=[.int .i64 u.kind,.int .i64 u.cell,.int .i64 u.value]:=rfl
 rw [e1]
 unfold jdC updB
 have hlL:=tbE_len m.tables
 cases hr:tabAt m.sorts m.tables false u.cell with
 | none=>
  rw [hr] at kt
  have kt:Cl cfg 162 [.t (intsA m.sorts),.t (.arr (tbE m.tables)),.t (.bool false),.t (.int .i64 u.cell)] [] (.tup [.t (.int .i64 0),.nil,.t (.bool false)]) []:=kt
  refine Cl.of_body rfl Tryz.func147 rfl rfl rfl ?_
  exact drv
 | some it=>
  obtain ⟨i,t⟩:=it
  rw [hr] at kt
  have kt:Cl cfg 162 [.t (intsA m.sorts),.t (.arr (tbE m.tables)),.t (.bool false),.t (.int .i64 u.cell)] [] (.tup [.t (.int .i64 (i:Int)),.ls 0,.t (.bool true)]) [.row false false 1 (intsE (nthS m.sorts t.cols (u.cell - t.first)))]:=kt
  have hti:m.tables[i]?=some t:=by
   unfold tabAt at hr
   rw [if_pos hv] at hr
   have:=(tab_some hr).2.1
   rwa [Nat.sub_zero] at this
  have htc:=tbE_get hti
  show Cl cfg _ _ [] (.t (.bool (updT u t))) []
  refine Cl.of_body rfl Tryz.func147 rfl rfl rfl ?_
  by_cases hk:t.kind=2∨t.kind=3
  ·
   rw [updT_set hk]
   rcases hk with hk|hk
   ·
    exact drv
   ·
    exact drv
  ·
   rw [updT_reg hk]
   have hk2:¬ t.kind=2:=fun h=>hk (.inl h)
   have hk3:¬ t.kind=3:=fun h=>hk (.inr h)
   exact drv
theorem efC_eq (x:Eff):efC x=[.arr (chE x.delta),.arr (rwE x.hold),.arr (udE x.ups)]:=rfl
theorem jeff1_c {m:Md} {l:List (Int×Int)} {r:Rw} (hr:r.terms.length≤140737488351232) (hl:l.length≤100000):Cl cfg 149 [.t (.agg (rwC r)),.t (.tp (jdC m l))] [] (.t (.bool (!rowB l.length r))) []:=by
 have kr:=jrow_c (m:=m) (l:=l) hr hl
 have e1:rwC r=[.arr (tmE r.terms),.int .i64 r.bound]:=rfl
 rw [e1] at kr ⊢
 unfold jdC at kr ⊢
 obtain ⟨b,hb⟩:∃ b,rowB l.length r=b:=⟨_,rfl⟩
 rw [hb] at kr ⊢
 refine Cl.of_body rfl Tryz.func149 rfl rfl rfl ?_
 exact drv
theorem jeff_c {m:Md} {l:List (Int×Int)} {x:Eff} (hv:layB m.sorts m.tables=true) (hm:MdL m) (hx:EfB x) (hl:l.length≤100000):Cl cfg 122 [.t (.agg (jdC m l)),.t (.agg (efC x))] [] (.t (.bool (effB m l.length x))) []:=by
 rw [← eff_eqC]
 obtain ⟨D,H,U⟩:=x
 have e1:efC ⟨D,H,U⟩=[.arr (chE D),.arr (rwE H),.arr (udE U)]:=rfl
 have hD:D.length≤17592186044416:=hx.delta
 have hH:H.length≤17592186044416:=hx.hold
 have hHt:∀ r∈H,r.terms.length≤17592186044416:=hx.hterms
 have hU:U.length≤17592186044416:=hx.ups
 have hUc:∀ u∈U,u.cell≤9223372036854775807:=hx.cell
 have hlD:=chE_len D
 have hlH:=rwE_len H
 have hlU:=udE_len U
 have hlL:=rgE_len l
 have kh:=coneffr_c (C:=H) (p:=fun r=>!rowB l.length r) (c1:=.tp (jdC m l)) (by omega) (fun r hr=>jeff1_c (by have:=hHt r hr;omega) hl)
 have ku:=fun (u:Upd) (hu:u∈U)=>jupd_c (l:=l) hv hm (hUc u hu)
 obtain ⟨hb,hhb⟩:∃ b,(H.any fun r=>!rowB l.length r)=b:=⟨_,rfl⟩
 rw [hhb] at kh
 have hall:H.all (rowB l.length)=!hb:=by rw [← hhb];exact any_not _ _
 obtain ⟨Y,hY⟩:∃ Y,(decide (H.length≤8) && (decide (U.length≤32) && H.all (rowB l.length)))=Y:=⟨_,rfl⟩
 have e0:effC m l.length ⟨D,H,U⟩=(allG (chgCd l.length D) 0 (D.drop 0) && (allG (updC m U) 0 (U.drop 0) && Y)):=by rw [← hY];rfl
 rw [e0,e1]
 obtain ⟨JC,hJC⟩:∃ JC,jdC m l=JC:=⟨_,rfl⟩
 unfold jdC at kh ku ⊢
 refine Cl.of_body rfl Tryz.func122 rfl rfl rfl ?_
 refine drvR ?_
 refine EvL.ind (fun q:Nat=>[(5,.t (.int .i64 (prevV Chg.cell D q))),(13,.t (.int .i64 (q:Int)))]) (fun q=>q≤D.length∧allG (chgCd l.length D) 0 (D.drop 0)=allG (chgCd l.length D) q (D.drop q)) (fun q=>D.length - q) 0 rfl ⟨by omega,rfl⟩ (fun q hq=>?_)
 obtain ⟨h1,h2⟩:=hq
 rw [h2]
 rcases Nat.lt_or_ge q D.length with h3|h3
 ·
  obtain ⟨t,ht⟩:=get_of_lt h3
  have hc:=chE_get ht
  have kf:=maround_c t.add (m:=1000000000) (.inr (.inl rfl))
  have hbad:=allG_bad (p:=chgCd l.length D) ht
  have hok:=allG_ok (p:=chgCd l.length D) ht
  have hpv:prevV Chg.cell D (q+1)=t.cell:=by simp only [prevV,ht]
  have hiff:chgCd l.length D q t=true↔prevV Chg.cell D q < t.cell∧t.cell < l.length∧t.add≠0∧btw t.add 1000000000=true:=by
   unfold chgCd
   simp only [Bool.and_eq_true,Bool.not_eq_true',decide_eq_true_eq,decide_eq_false_iff_not,ne_eq]
  rw [hiff] at hbad hok
  obtain ⟨p,hp⟩:∃ p,prevV Chg.cell D q=p:=⟨_,rfl⟩
  rw [hp] at hbad hok ⊢
  obtain ⟨bf,hbf⟩:∃ b,btw t.add 1000000000=b:=⟨_,rfl⟩
  rw [hbf] at kf hbad hok
  cases bf with
  | false=>
   rw [hbad (fun h=>by cases h.2.2.2)]
   exact drv
  | true=>
   repeat' (first
|(with_reducible first|apply EvK.seq|apply EvK.block)
|((with_reducible apply EvK.text);(try case hm=>exact rfl))
|(with_reducible first|apply EvK.skip|apply EvK.ret|apply thenK_n|apply thenK_r|apply blockK_r)
|((with_reducible apply EvK.cond_t);(case hc=>exact rfl))
|((with_reducible apply EvK.cond_f);(case hc=>exact rfl))
|((with_reducible apply EvO.spd_t);(case hp=>exact fao))
|((with_reducible apply EvO.spd) <;> intro hq)
|((with_reducible apply EvO.spd_y) <;> intro hq)
|(with_reducible first|apply EvO.nilT|apply EvO.nilB)
|((with_reducible apply EvO.gf);(case hW=>exact rfl))
|((with_reducible apply EvO.gt0);(case hW=>exact rfl);(case hx=>first
|(exact oqF kf)
|exact opq))
|((with_reducible apply EvO.u0);(case hx=>exact opq))
|fail)
   all_goals first
    | exact fin_b (.inr rfl) rfl (by rw [hbad (fun h=>by obtain ⟨_,_,_,_⟩:=h;omega)];rfl)
    | exact ⟨q+1,by rw [hpv];rfl,rfl,⟨by omega,hok ⟨by omega,by omega,by omega,rfl⟩⟩,by omega⟩
 ·
  rw [allG_end h3,Bool.true_and]
  refine drvR ?_
  refine EvL.ind (fun q:Nat=>[(5,.t (.int .i64 (prevV Upd.cell U q))),(46,.t (.int .i64 (q:Int)))]) (fun q=>q≤U.length∧allG (updC m U) 0 (U.drop 0)=allG (updC m U) q (U.drop q)) (fun q=>U.length - q) 0 rfl ⟨by omega,rfl⟩ (fun q hq=>?_)
  obtain ⟨g1,g2⟩:=hq
  rw [g2]
  rcases Nat.lt_or_ge q U.length with g3|g3
  ·
   obtain ⟨u,hu⟩:=get_of_lt g3
   have hcu:=udE_get hu
   have kuu:=ku u (List.mem_of_getElem? hu)
   have hbad:=allG_bad (p:=updC m U) hu
   have hok:=allG_ok (p:=updC m U) hu
   have hpv:prevV Upd.cell U (q+1)=u.cell:=by simp only [prevV,hu]
   have hiff:updC m U q u=true↔prevV Upd.cell U q < u.cell∧updB m u=true:=by
    unfold updC
    simp only [Bool.and_eq_true,decide_eq_true_eq]
   rw [hiff] at hbad hok
   obtain ⟨p,hp⟩:∃ p,prevV Upd.cell U q=p:=⟨_,rfl⟩
   rw [hp] at hbad hok ⊢
   obtain ⟨bf,hbf⟩:∃ b,updB m u=b:=⟨_,rfl⟩
   rw [hbf] at kuu hbad hok
   cases bf with
   | false=>
    rw [hbad (fun h=>by cases h.2)]
    exact drv
   | true=>
    repeat' (first
|(with_reducible first|apply EvK.seq|apply EvK.block)
|((with_reducible apply EvK.text);(try case hm=>exact rfl))
|(with_reducible first|apply EvK.skip|apply EvK.ret|apply thenK_n|apply thenK_r|apply blockK_r)
|((with_reducible apply EvK.cond_t);(case hc=>exact rfl))
|((with_reducible apply EvK.cond_f);(case hc=>exact rfl))
|((with_reducible apply EvO.spd_t);(case hp=>exact fao))
|((with_reducible apply EvO.spd) <;> intro hq)
|(with_reducible first|apply EvO.nilT|apply EvO.nilB)
|((with_reducible apply EvO.gf);(case hW=>exact rfl))
|((with_reducible apply EvO.gt0);(case hW=>exact rfl);(case hx=>first
|(exact oqF kuu)
|exact opq))
|((with_reducible apply EvO.u0);(case hx=>exact opq))
|fail)
    all_goals first
     | exact fin_b (.inr rfl) rfl (by rw [hbad (fun h=>by obtain ⟨_,_⟩:=h;omega)];rfl)
     | exact ⟨q+1,by rw [hpv];rfl,rfl,⟨by omega,hok ⟨by omega,rfl⟩⟩,by omega⟩
  ·
   rw [allG_end g3,Bool.true_and,← hY,hall]
   by_cases h8:H.length≤8
   ·
    rw [decide_eq_true h8,Bool.true_and]
    by_cases h32:U.length≤32
    ·
     rw [decide_eq_true h32,Bool.true_and]
     cases hb with
     | true=>
      exact drv
     | false=>
      exact drv
    ·
     rw [decide_eq_false h32,Bool.false_and]
     exact drv
   ·
    rw [decide_eq_false h8,Bool.false_and]
    exact drv
end Go.Proofs.YtcpgmmlaimkojaaGreatDoor
