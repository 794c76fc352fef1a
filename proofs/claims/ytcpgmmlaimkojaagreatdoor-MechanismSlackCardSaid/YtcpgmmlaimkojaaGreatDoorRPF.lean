/- What the reference's plans ask of actions: rights,slack,exclusion;sums,states,as contracts. No condition. -/
import Derived.Test.YtcpgmmlaimkojaaGreatDoorTRB
set_option linter.unusedSimpArgs false
set_option linter.unusedVariables false
set_option linter.unusedSectionVars false
namespace Go.Proofs.YtcpgmmlaimkojaaGreatDoor
open Go.RowKit
set_option maxRecDepth 100000
set_option maxHeartbeats 32000000
def sumP (d:List Chg) (c:Int) (q:Nat):Int:=(d.take q).foldl (fun n x=>if x.cell=c then n+x.add else n) 0
theorem sumP_s {d:List Chg} {c:Int} {q:Nat} {x:Chg} (h:d[q]?=some x):sumP d c (q+1)=if x.cell=c then sumP d c q+x.add else sumP d c q:=foldl_snoc _ _ h
theorem sumP_b {n:Nat} {d:List Chg} (hd:allI (chgOk n d) d=true) (hl:d.length≤1000000) (c:Int) (q:Nat) : -1000000000000000≤sumP d c q∧sumP d c q≤1000000000000000:=by
 have h:=sumF_bnd (l:=d.take q) (g:=fun n (x:Chg)=>if x.cell=c then n+x.add else n) (B:=1000000000) (by omega) (fun n t h=>by
  have:=(chg_of hd (List.mem_of_mem_take h)).2
  try dsimp only
  split <;> omega) 0
 have hl2:((d.take q).length:Int)≤d.length:=by rw [List.length_take];omega
 unfold sumP
 omega
theorem rAdd_c {n:Nat} {x:Eff} {c:Int} (hd:allI (chgOk n x.delta) x.delta=true) (hl:x.delta.length≤1000000):Cl cfg 80 [.t (.agg (efC x)),.t (.int .i64 c)] [] (.t (.int .i64 (addAt x.delta c))) []:=by
 have hlE:=chE_len x.delta
 have e0:addAt x.delta c=sumP x.delta c x.delta.length:=by unfold sumP;rw [List.take_length,← sum_add (chg_rise hd)];rfl
 rw [e0,efC_eq]
 refine Cl.of_body rfl Tryz.func80 rfl rfl rfl ?_
 refine drvR ?_
 refine EvL.ind (fun q:Nat=>[(5,.t (.int .i64 (sumP x.delta c q))),(6,.t (.int .i64 (q:Int)))]) (fun q=>q≤x.delta.length) (fun q=>x.delta.length - q) 0 rfl (by omega) (fun q h1=>?_)
 rcases Nat.lt_or_ge q x.delta.length with h3|h3
 ·
  obtain ⟨t,ht⟩:=get_of_lt h3
  have hc:=chE_get ht
  have hb:=sumP_b hd hl c q
  have hb':=sumP_b hd hl c (q+1)
  have hs:=sumP_s (c:=c) ht
  rw [hs] at hb'
  obtain ⟨P,hP⟩:∃ P,sumP x.delta c q=P:=⟨_,rfl⟩
  rw [hP] at hs hb hb' ⊢
  by_cases he:t.cell=c
  ·
   rw [if_pos he] at hs hb'
   refine drvR ?_
   exact ⟨q+1,by rw [hs];rfl,rfl,by omega,by omega⟩
  ·
   rw [if_neg he] at hs hb'
   refine drvR ?_
   exact ⟨q+1,by rw [hs];rfl,rfl,by omega,by omega⟩
 ·
  obtain rfl:q=x.delta.length:=by omega
  exact drv
theorem rSum_c {n:Nat} {x:Eff} {r:Rw} (hn:n≤100000) (hd:allI (chgOk n x.delta) x.delta=true) (ht:allI (termOk n r.terms) r.terms=true) (hl:x.delta.length≤1000000):Cl cfg 72 [.t (.agg (efC x)),.t (.agg (rwC r))] [] (.t (.int .i64 (chgR x.delta r))) []:=by
 have hlT:=tmE_len r.terms
 have hln:=term_len ht
 have e0:chgR x.delta r=chgP x.delta r.terms r.terms.length:=by unfold chgR chgP;rw [List.take_length]
 have ka:=fun c=>rAdd_c (c:=c) hd hl
 rw [e0]
 rw [rwC_eq]
 rw [efC_eq] at ka ⊢
 refine Cl.of_body rfl Tryz.func72 rfl rfl rfl ?_
 refine drvR ?_
 refine EvL.ind (fun q:Nat=>[(5,.t (.int .i64 (chgP x.delta r.terms q))),(6,.t (.int .i64 (q:Int)))]) (fun q=>q≤r.terms.length) (fun q=>r.terms.length - q) 0 rfl (by omega) (fun q h1=>?_)
 rcases Nat.lt_or_ge q r.terms.length with h3|h3
 ·
  obtain ⟨t,htq⟩:=get_of_lt h3
  have hc:=tmE_get htq
  have ka:=ka t.cell
  obtain ⟨b1,b2,b3⟩:=tm_bnd hd ht (List.mem_of_getElem? htq)
  have hs:=chgP_s (d:=x.delta) htq
  have hb:=chgP_b hd ht q
  have hb':=chgP_b hd ht (q+1)
  rw [hs] at hb'
  obtain ⟨v,hv⟩:∃ v,addAt x.delta t.cell=v:=⟨_,rfl⟩
  rw [hv] at ka b2 b3 hs hb'
  obtain ⟨P,hP⟩:∃ P,chgP x.delta r.terms q=P:=⟨_,rfl⟩
  rw [hP] at hs hb hb' ⊢
  refine drvR ?_
  exact ⟨q+1,by rw [hs];rfl,rfl,by omega,by omega⟩
 ·
  obtain rfl:q=r.terms.length:=by omega
  exact drv
def valP (s:List Int) (r:Rw) (q:Nat):Int:=(r.terms.take q).foldl (fun n t=>n+t.factor * s.getD t.cell.toNat 0) 0
theorem valP_s {s:List Int} {r:Rw} {q:Nat} {t:Tm} (h:r.terms[q]?=some t):valP s r (q+1)=valP s r q+t.factor * s.getD t.cell.toNat 0:=foldl_snoc _ _ h
theorem val_slk {s:List Int}:∀ (l:List Tm) (a b:Int),a - l.foldl (fun n t=>n+t.factor * s.getD t.cell.toNat 0) b=l.foldl (fun n t=>n - t.factor * s.getD t.cell.toNat 0) (a - b)
 | [],a,b=>rfl
 | t::l,a,b=>by
  rw [List.foldl_cons,List.foldl_cons,val_slk l a (b+t.factor * s.getD t.cell.toNat 0)]
  congr 1
  omega
theorem val_slack (s:List Int) (r:Rw):r.bound - valP s r r.terms.length=slackR s r:=by
 unfold valP slackR
 rw [List.take_length,val_slk,Int.sub_zero]
theorem valP_b {n:Nat} {s:List Int} (hs:∀ x∈s,-1000000≤x∧x≤1000000) {r:Rw} (hr:rowB n r=true) (q:Nat) : -(1000000000 * (r.terms.length:Int))≤valP s r q∧valP s r q≤1000000000 * (r.terms.length:Int):=by
 have h:=sumF_bnd (l:=r.terms.take q) (g:=fun n (t:Tm)=>n+t.factor * s.getD t.cell.toNat 0) (B:=1000000000) (by omega) (fun n t h=>by
  have:=tm_bndS hs (row_terms hr) (List.mem_of_mem_take h)
  try dsimp only
  omega) 0
 have hl:((r.terms.take q).length:Int)≤r.terms.length:=by rw [List.length_take];omega
 unfold valP
 omega
theorem rValue_c {n:Nat} {s:List Int} {r:Rw} (hn:n≤100000) (hsn:s.length=n) (hs:∀ x∈s,-1000000≤x∧x≤1000000) (hr:rowB n r=true):Cl cfg 75 [.t (.agg (rwC r)),.t (intsA s)] [] (.t (.int .i64 (valP s r r.terms.length))) []:=by
 have hlT:=tmE_len r.terms
 have hls:=intsE_len s
 have hln:=term_len (row_terms hr)
 rw [rwC_eq]
 refine Cl.of_body rfl Tryz.func75 rfl rfl rfl ?_
 refine drvR ?_
 refine EvL.ind (fun q:Nat=>[(5,.t (.int .i64 (valP s r q))),(6,.t (.int .i64 (q:Int)))]) (fun q=>q≤r.terms.length) (fun q=>r.terms.length - q) 0 rfl (by omega) (fun q h1=>?_)
 rcases Nat.lt_or_ge q r.terms.length with h3|h3
 ·
  obtain ⟨t,ht⟩:=get_of_lt h3
  have hc:=tmE_get ht
  have htm:=List.mem_of_getElem? ht
  obtain ⟨⟨t0,t1⟩,_⟩:=term_of (row_terms hr) htm
  have hb3:=tm_bndS hs (row_terms hr) htm
  obtain ⟨v,hvv⟩:=get_of_lt (xs:=s) (k:=t.cell.toNat) (by omega)
  have hcv:=intsE_get hvv
  have hs1:=valP_s (s:=s) ht
  have hb:=valP_b hs hr q
  have hb':=valP_b hs hr (q+1)
  rw [hs1] at hb'
  rw [List.getD_eq_getElem?_getD,hvv,Option.getD_some] at hb3 hs1 hb'
  obtain ⟨P,hP⟩:∃ P,valP s r q=P:=⟨_,rfl⟩
  rw [hP] at hs1 hb hb' ⊢
  refine drvR ?_
  exact ⟨q+1,by rw [hs1];rfl,rfl,by omega,by omega⟩
 ·
  obtain rfl:q=r.terms.length:=by omega
  exact drv
theorem rCells_c {m:Md} {t:Tb} (hm:MdL m) (hs:soundB m.sorts=true) (hc:t.cols.all (colOk m.sorts)=true) (hl:t.cols.length≤3):Cl cfg 78 [.t (mdA m),.t (.agg (tbC t))] [] (.t (.int .i64 (prodC m.sorts t.cols))) []:=by
 have hlS:=intsE_len m.sorts
 have hms:=hm.sorts
 obtain ⟨nm,kd,C,lo,hi,fi⟩:=t
 have hc:C.all (colOk m.sorts)=true:=hc
 have hl:C.length≤3:=hl
 have hlC:=intsE_len C
 have e1:tbC ⟨nm,kd,C,lo,hi,fi⟩=[.str nm,.int .i64 kd,intsA C,.int .i64 lo,.int .i64 hi,.int .i64 fi]:=rfl
 rw [mdA_eq,e1]
 show Cl cfg _ _ [] (.t (.int .i64 (prodC m.sorts C))) []
 refine Cl.of_body rfl Tryz.func78 rfl rfl rfl ?_
 refine drvR ?_
 refine EvL.ind (fun q:Nat=>[(5,.t (.int .i64 (prodC m.sorts (C.take q)))),(6,.t (.int .i64 (q:Int)))]) (fun q=>q≤C.length) (fun q=>C.length - q) 0 rfl (by omega) (fun q hq=>?_)
 rcases Nat.lt_or_ge q C.length with h4|h4
 ·
  obtain ⟨c,hc'⟩:=get_of_lt h4
  have hcc:=intsE_get hc'
  have ho:=List.all_eq_true.1 hc c (List.mem_of_getElem? hc')
  have hb:=prodC_bnd hs (C:=C.take (q+1)) (List.all_eq_true.2 fun x hx=>List.all_eq_true.1 hc x (List.mem_of_mem_take hx)) (by simp;omega)
  have hsn:=prodC_snoc (S:=m.sorts) hc'
  rw [hsn] at hb
  simp only [colOk,Bool.and_eq_true,decide_eq_true_eq] at ho
  obtain ⟨h0,h5⟩:=ho
  obtain ⟨s,hs'⟩:=get_of_lt (xs:=m.sorts) (k:=c.toNat) (by omega)
  have hg:=intsE_get hs'
  rw [getD_get hs'] at hb hsn
  obtain ⟨p,hp⟩:∃ p,prodC m.sorts (C.take q)=p:=⟨_,rfl⟩
  rw [hp] at hb hsn ⊢
  refine drvR ?_
  refine ⟨q+1,?_,rfl,by omega,by omega⟩
  rw [hsn];rfl
 ·
  rw [List.take_of_length_le h4]
  exact drv
theorem rStr_c (k:Int):Cl cfg 77 [.t (.int .i64 k)] [] (.t (.bool (strictK k))) []:=by
 refine Cl.of_body rfl Tryz.func77 rfl rfl rfl ?_
 repeat' (first
|(with_reducible apply EvK.seq)
|((with_reducible apply EvK.text);(try case hm=>exact rfl))
|(with_reducible apply EvK.ret)
|((with_reducible apply EvO.spd) <;> intro hq)
|((with_reducible apply EvO.spd_y) <;> intro hq)
|(with_reducible apply EvO.nilT)
|((with_reducible apply EvO.gf);(case hW=>exact rfl))
|((with_reducible apply EvO.gt0);(case hW=>exact rfl);(case hx=>exact opq))
|((with_reducible apply EvO.u0);(case hx=>exact opq))
|fail)
 all_goals (refine fin_b (.inr rfl) rfl ?_;unfold strictK;first|(simp_all;done)|(simp_all;omega))
theorem rTotal_c {m:Md} (hm:MdL m) (hv:layB m.sorts m.tables=true):Cl cfg 30 [.t (mdA m)] [] (.t (.int .i64 (cntOf m.sorts true m.tables))) []:=by
 have hlL:=tbE_len m.tables
 have hfew:=lay_few hv
 have hsd:=lay_sound hv
 have ksz:=fun (t:Tb) h1 h2=>rCells_c (t:=t) hm hsd h1 h2
 rw [mdA_eq] at ksz ⊢
 refine Cl.of_body rfl Tryz.func30 rfl rfl rfl ?_
 refine drvR ?_
 refine EvL.ind (fun q:Nat=>[(3,.t (.int .i64 (cntOf m.sorts true (m.tables.take q)))),(4,.t (.int .i64 (q:Int)))]) (fun q=>q≤m.tables.length) (fun q=>m.tables.length - q) 0 rfl (by omega) (fun q hq=>?_)
 rcases Nat.lt_or_ge q m.tables.length with h3|h3
 ·
  obtain ⟨t,ht⟩:=get_of_lt h3
  have hc:=tbE_get ht
  obtain ⟨c1,c2,c3⟩:=lay_cols hv ht
  have kn:=ksz t c3 c1
  have kst:=rStr_c t.kind
  have hs1:=cnt_snoc (S:=m.sorts) true ht
  have hb1:=cnt_bnd (S:=m.sorts) true (m.tables.take q)
  have hbN:=numberS_bnd m.sorts t.cols
  rw [num_prod3 hsd c3 c1] at hs1 hbN
  have hlq:(m.tables.take q).length=q:=by simp;omega
  rw [hlq] at hb1
  obtain ⟨a,ha⟩:∃ a,cntOf m.sorts true (m.tables.take q)=a:=⟨_,rfl⟩
  obtain ⟨N,hN⟩:∃ N,prodC m.sorts t.cols=N:=⟨_,rfl⟩
  rw [ha] at hs1 hb1 ⊢
  rw [hN] at hs1 hbN kn
  cases hst:strictK t.kind with
  | true=>
   rw [hst] at kst
   rw [hst,if_pos rfl] at hs1
   refine drvR ?_
   refine ⟨q+1,?_,rfl,by omega,by omega⟩
   rw [hs1];rfl
  | false=>
   rw [hst] at kst
   rw [hst,if_neg (by decide)] at hs1
   refine drvR ?_
   refine ⟨q+1,?_,rfl,by omega,by omega⟩
   rw [hs1];rfl
 ·
  rw [List.take_of_length_le h3]
  exact drv
theorem model_lay {m:Md} (h:modelB m=true):layB m.sorts m.tables=true:=by
 unfold modelB at h
 simp only [Bool.and_eq_true] at h
 exact h.1.1.1
theorem total_len {m:Md} (hv:layB m.sorts m.tables=true):cntOf m.sorts true m.tables=((rngs m.sorts m.tables true).length:Int):=by
 have h:=rngsC_len m.sorts true m.tables
 unfold rngs
 rw [if_pos hv]
 exact h.symm
end Go.Proofs.YtcpgmmlaimkojaaGreatDoor
