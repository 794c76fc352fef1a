/- The reference's tuples of cells,as contracts. No condition. -/
import Derived.Test.YtgbfedgghjcdcaaGreatDoorNA
set_option linter.unusedSimpArgs false
set_option linter.unusedVariables false
set_option linter.unusedSectionVars false
namespace Go.Proofs.YtgbfedgghjcdcaaGreatDoor
open Go.RowKit
set_option maxRecDepth 100000
set_option maxHeartbeats 16000000
theorem mkI_eq (fr:Fr) (m n:Int):makeE cfg.P fr 22 (.t (.int .i64 m)) (.t (.int .i64 n))=match decide (0≤m) && decide (m≤n) && Nat.ble (n.toNat * 8) 281474976710656 && Nat.ble n.toNat 140737488351232 with
  | true=>some (.ls fr.length,fr++[.row false false 1 (List.replicate m.toNat [.int .i64 0])],[])
  | false=>none:=by kernel_rfl
theorem mkI {fr:Fr} {n:Nat} (h:n≤1000):makeE cfg.P fr 22 (.t (.int .i64 (n:Int))) (.t (.int .i64 (n:Int)))=some (.ls fr.length,fr++[.row false false 1 (intsE (List.replicate n 0))],[]):=by
 have e:(decide (0≤(n:Int)) && decide ((n:Int)≤n) && Nat.ble ((n:Int).toNat * 8) 281474976710656 && Nat.ble (n:Int).toNat 140737488351232)=true:=by
  rw [Int.toNat_natCast]
  have h1:Nat.ble (n * 8) 281474976710656=true:=by rw [Nat.ble_eq];omega
  have h2:Nat.ble n 140737488351232=true:=by rw [Nat.ble_eq];omega
  rw [h1,h2]
  simp
 rw [mkI_eq,e]
 simp [intsE]
theorem rnth_c {S C:List Int} {K:Int} (hs:soundB S=true) (hc:C.all (colOk S)=true) (hS:S.length≤140737488351232) (hC:C.length≤3) (h0:0≤K) (hK:K≤1000):Cl cfg 209 [.t (intsA S),.t (intsA C),.t (.int .i64 K)] [] (.ls 0) [.row false false 1 (intsE (nthS S C K))]:=by
 have hlS:=intsE_len S
 have hlC:=intsE_len C
 have hm:=mkI (fr:=[]) (n:=C.length) (by omega)
 have hrep:=intsE_len (List.replicate C.length 0)
 rw [List.length_replicate] at hrep
 refine Cl.of_body rfl Tryz.func209 rfl rfl rfl ?_
 repeat' (first
|(with_reducible first|apply EvK.seq|apply EvK.block)
|((with_reducible apply EvK.text);(try case hm=>exact rfl))
|(with_reducible apply EvO.nilT)
|((with_reducible apply EvO.u0);(case hx=>first
|((with_reducible apply OpR.mks);(case hs=>exact fun _=>rfl);(case hl|hc=>exact rfl);(case hm=>exact hm);(case hf=>exact leq))
|exact opq))
|fail)
 apply EvK.loopV
 case ho=>exact rfl
 case hp=>exact rfl
 case hl=>exact rfl
 case hs=>exact slt
 refine EvL.indF (fun x:Nat×Int×List Int=>[(2,.t (.int .i64 x.2.1)),(8,.t (.int .i64 ((x.1:Int) - 1)))]) (fun x=>[.row false false 1 (intsE x.2.2)]) (fun x=>x.1≤C.length∧0≤x.2.1∧x.2.1≤1000∧x.2.2.length=C.length∧nthG S C x.1 x.2.1 x.2.2=nthS S C K) (fun x=>x.1) (C.length,K,List.replicate C.length 0) rfl rfl ⟨by dsimp only;omega,h0,hK,by simp,rfl⟩ (fun x hx=>?_)
 obtain ⟨j,k,r⟩:=x
 dsimp only at hx ⊢
 obtain ⟨h1,h2,h3,h4,h5⟩:=hx
 cases j with
 | zero=>
  rw [← h5]
  repeat' (first
|(with_reducible apply EvK.seq)
|((with_reducible apply EvK.text);(try case hm=>exact rfl))
|(with_reducible first|apply EvK.exit|apply EvK.ret|apply thenK_n|apply thenK_e|apply blockK_h)
|((with_reducible apply EvK.cond_f);(case hc=>exact rfl))
|((with_reducible apply EvO.spd_f);(case hp=>exact fao))
|(with_reducible apply EvO.nilT)
|((with_reducible apply EvO.u0);(case hx=>exact opq))
|fail)
  exact ⟨.inr rfl,rfl⟩
 | succ j=>
  obtain ⟨c,hcj⟩:=get_of_lt (xs:=C) (k:=j) (by omega)
  have hcc:=intsE_get hcj
  have hco:=List.all_eq_true.1 hc c (List.mem_of_getElem? hcj)
  obtain ⟨g1,g2⟩:=col_at hs hco
  simp only [colOk,Bool.and_eq_true,decide_eq_true_eq] at hco
  obtain ⟨g3,g4⟩:=hco
  obtain ⟨s,hsk⟩:=get_of_lt (xs:=S) (k:=c.toNat) (by omega)
  have hsc:=intsE_get hsk
  rw [getD_get hsk] at g1 g2
  obtain ⟨v,hv⟩:=get_of_lt (xs:=r) (k:=j) (by omega)
  have hvc:=intsE_get hv
  have hlr:=intsE_len r
  have ej:(((j+1:Nat):Int) - 1)=(j:Int):=by omega
  rw [ej]
  have hk':(intsE r)[((j:Nat):Int).toNat]?=some [.int .i64 v]:=by rw [Int.toNat_natCast];exact hvc
  have hst:(intsE r).set ((j:Nat):Int).toNat [.int .i64 (k.tmod s)]=intsE (r.set j (k.tmod s)):=by rw [Int.toNat_natCast];simp [intsE,List.map_set]
  have hd:0≤k.tdiv s∧k.tdiv s≤k:=by
   rw [Int.tdiv_eq_ediv_of_nonneg h2]
   exact ⟨Int.ediv_nonneg h2 (by omega),Int.ediv_le_self _ h2⟩
  have hnx:nthG S C (j+1) k r=nthG S C j (k.tdiv s) (r.set j (k.tmod s)):=by
   have e1:C.getD j 0=c:=getD_get hcj
   have e2:S.getD c.toNat 0=s:=getD_get hsk
   rw [nthG,e1,e2]
  obtain ⟨kd,hkd⟩:∃ kd,k.tdiv s=kd:=⟨_,rfl⟩
  rw [hkd] at hd hnx
  repeat' (first
|(with_reducible first|apply EvK.seq|apply EvK.block)
|((with_reducible apply EvK.text);(try case hm=>exact rfl))
|(with_reducible first|apply EvK.skip|apply thenK_n)
|((with_reducible apply EvK.cond_t);(case hc=>exact rfl))
|((with_reducible apply EvO.spd_t);(case hp=>exact fao))
|(with_reducible first|apply EvO.nilT|apply EvO.nilB)
|((with_reducible apply EvO.u0);(case hx=>first
|((with_reducible apply OpR.remv);(case hx|hy=>exact rfl);(case hn=>omega);(case h=>exact rfl))
|((with_reducible apply OpR.quov);(case hx|hy=>exact rfl);(case hn=>omega);(case h=>exact hkd);(case hb=>omega))
|((with_reducible apply OpR.sti);(case hs=>exact fun _=>rfl);(case ha|hy|ht|hone=>exact rfl);(case hn=>kernel_rfl);(case hb=>exact rfl);(case hk=>exact hk');(case hj=>exact rfl);(case hv=>exact hst);(case hf=>exact leq))
|exact opq))
|fail)
  exact ⟨(j,kd,r.set j (k.tmod s)),rfl,rfl,⟨by dsimp only;omega,by dsimp only;omega,by dsimp only;omega,by simp [h4],by dsimp only;rw [← hnx];exact h5⟩,by dsimp only;omega⟩
theorem inT_iff {S:List Int} {s:Bool} {c:Int} {t:Tb}:inT S s c t=true↔strictK t.kind=s∧0≤c∧0≤c - t.first∧c - t.first < numberS S t.cols:=by
 unfold inT
 simp only [Bool.and_eq_true,decide_eq_true_eq]
theorem lay_first {S:List Int} {L:List Tb} (h:layB S L=true) {k:Nat} {t:Tb} (ht:L[k]?=some t):0≤t.first∧t.first≤5000:=by
 have h1:=lay_tab h ht
 simp only [tabOk,Bool.and_eq_true,decide_eq_true_eq] at h1
 have h2:=cnt_bnd (S:=S) (strictK t.kind) (L.take k)
 have h3:=lay_few h
 have h4:(L.take k).length≤L.length:=by simp;omega
 omega
theorem rtuple_c {S:List Int} {L:List Tb} {s:Bool} {c:Int} (hS:S.length≤140737488351232) (hL:L.length≤140737488351232) (hC:∀ t∈L,t.cols.length≤140737488351232) (hc:c≤9223372036854775807):match tabAt S L s c with
  | some (i,t)=>Cl cfg 174 [.t (intsA S),.t (.arr (tbE L)),.t (.bool s),.t (.int .i64 c)] [] (.tup [.t (.int .i64 (i:Int)),.ls 0,.t (.bool true)]) [.row false false 1 (intsE (nthS S t.cols (c - t.first)))]
  | none=>Cl cfg 174 [.t (intsA S),.t (.arr (tbE L)),.t (.bool s),.t (.int .i64 c)] [] (.tup [.t (.int .i64 0),.nil,.t (.bool false)]) []:=by
 have kv:=rlay_c hS hL hC
 have hlS:=intsE_len S
 have hlL:=tbE_len L
 cases hv:layB S L with
 | false=>
  have hr:tabAt S L s c=none:=by unfold tabAt;rw [hv];rfl
  rw [hv] at kv
  rw [hr]
  refine Cl.of_body rfl Tryz.func174 rfl rfl rfl ?_
  repeat' (first
|(with_reducible apply EvK.seq)
|((with_reducible apply EvK.text);(try case hm=>exact rfl))
|(with_reducible first|apply EvK.ret|apply thenK_r)
|((with_reducible apply EvK.cond_t);(case hc=>exact rfl))
|(with_reducible apply EvO.nilT)
|((with_reducible apply EvO.u0);(case hx=>first
|(exact oqF kv)
|exact opq))
|fail)
  exact ⟨.inr rfl,rfl⟩
 | true=>
  have hr:tabAt S L s c=findG (inT S s c) 0 L:=by unfold tabAt;rw [hv];rfl
  rw [hv] at kv
  rw [hr]
  cases hf:findG (inT S s c) 0 L with
  | none=>
   show Cl cfg 174 _ [] _ []
   refine Cl.of_body rfl Tryz.func174 rfl rfl rfl ?_
   repeat' (first
|(with_reducible first|apply EvK.seq|apply EvK.block)
|((with_reducible apply EvK.text);(try case hm=>exact rfl))
|(with_reducible first|apply EvK.skip|apply thenK_n)
|((with_reducible apply EvK.cond_f);(case hc=>exact rfl))
|(with_reducible apply EvO.nilT)
|((with_reducible apply EvO.u0);(case hx=>first
|(exact oqF kv)
|exact opq))
|fail)
   apply EvK.loopV
   case ho=>exact rfl
   case hp=>exact rfl
   case hl=>exact rfl
   case hs=>exact slt
   refine EvL.ind (fun q:Nat=>[(11,.t (.int .i64 (q:Int)))]) (fun q=>q≤L.length∧findG (inT S s c) q (L.drop q)=none) (fun q=>L.length - q) 0 rfl ⟨by omega,hf⟩ (fun q hq=>?_)
   obtain ⟨h1,h2⟩:=hq
   rcases Nat.lt_or_ge q L.length with h3|h3
   ·
    obtain ⟨t,ht⟩:=get_of_lt h3
    have htc:=tbE_get ht
    have kN:=rnumber_c (S:=S) (C:=t.cols) hS (hC t (List.mem_of_getElem? ht))
    have kst:=rstrict_c t.kind
    obtain ⟨f0,f1⟩:=lay_first hv ht
    rw [findG_hit ht] at h2
    obtain ⟨N,hN⟩:∃ N,numberS S t.cols=N:=⟨_,rfl⟩
    cases hi:inT S s c t with
    | true=>rw [hi] at h2;cases h2
    | false=>
     rw [hi] at h2
     have hni:¬ (strictK t.kind=s∧0≤c∧0≤c - t.first∧c - t.first < numberS S t.cols):=fun h=>by rw [inT_iff.2 h] at hi;cases hi
     rw [hN] at kN hni
     by_cases hs:strictK t.kind=s
     ·
      rw [hs] at kst
      by_cases h0:0≤c
      ·
       cases s <;>
       repeat' (first
|(with_reducible first|apply EvK.seq|apply EvK.block)
|((with_reducible apply EvK.text);(try case hm=>exact rfl))
|(with_reducible first|apply EvK.skip|apply thenK_n|apply blockK_n)
|((with_reducible apply EvK.cond_t);(case hc=>exact rfl))
|((with_reducible apply EvK.cond_f);(case hc=>exact rfl))
|((with_reducible apply EvO.spd_t);(case hp=>exact fao))
|((with_reducible apply EvO.spd_yt);(case hp=>exact fao))
|((with_reducible apply EvO.spd_y) <;> intro hq)
|(with_reducible apply EvO.nilT)
|((with_reducible apply EvO.gf);(case hW=>exact rfl))
|((with_reducible apply EvO.gt0);(case hW=>exact rfl);(case hx=>first
|(exact oqF kN)
|exact opq))
|((with_reducible apply EvO.u0);(case hx=>first
|(exact oqF kst)
|exact opq))
|fail)
       all_goals first
        | exact ⟨q+1,rfl,rfl,⟨by omega,h2⟩,by omega⟩
        | (exfalso;apply hni;exact ⟨hs,by omega,by omega,by omega⟩)
      ·
       cases s <;>
       repeat' (first
|(with_reducible first|apply EvK.seq|apply EvK.block)
|((with_reducible apply EvK.text);(try case hm=>exact rfl))
|(with_reducible first|apply EvK.skip|apply thenK_n|apply blockK_n)
|((with_reducible apply EvK.cond_t);(case hc=>exact rfl))
|((with_reducible apply EvK.cond_f);(case hc=>exact rfl))
|((with_reducible apply EvO.spd_t);(case hp=>exact fao))
|((with_reducible apply EvO.spd_yf);(case hp=>exact fao))
|(with_reducible apply EvO.nilT)
|((with_reducible apply EvO.gf);(case hW=>exact rfl))
|((with_reducible apply EvO.gt0);(case hW=>exact rfl);(case hx=>exact opq))
|((with_reducible apply EvO.u0);(case hx=>first
|((with_reducible apply OpR.subw);(case hx|hy=>exact rfl))
|(exact oqF kst)
|exact opq))
|fail)
       all_goals exact ⟨q+1,rfl,rfl,⟨by omega,h2⟩,by omega⟩
     ·
      have hst:strictK t.kind=!s:=by cases s <;> simp_all
      rw [hst] at kst
      cases s <;>
      repeat' (first
|(with_reducible first|apply EvK.seq|apply EvK.block)
|((with_reducible apply EvK.text);(try case hm=>exact rfl))
|(with_reducible first|apply EvK.skip|apply thenK_n|apply blockK_n)
|((with_reducible apply EvK.cond_t);(case hc=>exact rfl))
|((with_reducible apply EvK.cond_f);(case hc=>exact rfl))
|((with_reducible apply EvO.spd_t);(case hp=>exact fao))
|(with_reducible apply EvO.nilT)
|((with_reducible apply EvO.gf);(case hW=>exact rfl))
|((with_reducible apply EvO.u0);(case hx=>first
|((with_reducible apply OpR.subw);(case hx|hy=>exact rfl))
|(exact oqF kst)
|exact opq))
|fail)
      all_goals exact ⟨q+1,rfl,rfl,⟨by omega,h2⟩,by omega⟩
   ·
    repeat' (first
|(with_reducible apply EvK.seq)
|((with_reducible apply EvK.text);(try case hm=>exact rfl))
|(with_reducible first|apply EvK.exit|apply EvK.ret|apply thenK_n|apply thenK_e|apply blockK_h)
|((with_reducible apply EvK.cond_f);(case hc=>exact rfl))
|((with_reducible apply EvO.spd_f);(case hp=>exact fao))
|(with_reducible apply EvO.nilT)
|((with_reducible apply EvO.u0);(case hx=>exact opq))
|fail)
    exact ⟨.inr rfl,rfl⟩
  | some it=>
   obtain ⟨i,u⟩:=it
   have hiu:=tab_some hf
   show Cl cfg 174 _ [] _ _
   refine Cl.of_body rfl Tryz.func174 rfl rfl rfl ?_
   repeat' (first
|(with_reducible first|apply EvK.seq|apply EvK.block)
|((with_reducible apply EvK.text);(try case hm=>exact rfl))
|(with_reducible first|apply EvK.skip|apply thenK_n)
|((with_reducible apply EvK.cond_f);(case hc=>exact rfl))
|(with_reducible apply EvO.nilT)
|((with_reducible apply EvO.u0);(case hx=>first
|(exact oqF kv)
|exact opq))
|fail)
   apply EvK.loopV
   case ho=>exact rfl
   case hp=>exact rfl
   case hl=>exact rfl
   case hs=>exact slt
   refine EvL.ind (fun q:Nat=>[(11,.t (.int .i64 (q:Int)))]) (fun q=>q≤L.length∧findG (inT S s c) q (L.drop q)=some (i,u)) (fun q=>L.length - q) 0 rfl ⟨by omega,hf⟩ (fun q hq=>?_)
   obtain ⟨h1,h2⟩:=hq
   rcases Nat.lt_or_ge q L.length with h3|h3
   ·
    obtain ⟨t,ht⟩:=get_of_lt h3
    have htc:=tbE_get ht
    have kN:=rnumber_c (S:=S) (C:=t.cols) hS (hC t (List.mem_of_getElem? ht))
    have kst:=rstrict_c t.kind
    obtain ⟨f0,f1⟩:=lay_first hv ht
    obtain ⟨c1,c2,c3⟩:=lay_cols hv ht
    have hbN:=numberS_bnd S t.cols
    rw [findG_hit ht] at h2
    obtain ⟨N,hN⟩:∃ N,numberS S t.cols=N:=⟨_,rfl⟩
    cases hi:inT S s c t with
    | true=>
     rw [hi,if_pos rfl] at h2
     obtain ⟨rfl,rfl⟩:q=i∧t=u:=by cases h2;exact ⟨rfl,rfl⟩
     have hyes:=inT_iff.1 hi
     rw [hN] at kN hyes hbN
     obtain ⟨y1,y2,y3,y4⟩:=hyes
     rw [y1] at kst
     have kt:=rnth_c (S:=S) (C:=t.cols) (K:=c - t.first) c2 c3 hS c1 y3 (by omega)
     cases s <;>
     repeat' (first
|(with_reducible first|apply EvK.seq|apply EvK.block)
|((with_reducible apply EvK.text);(try case hm=>exact rfl))
|(with_reducible first|apply EvK.skip|apply EvK.ret|apply thenK_n|apply thenK_r|apply blockK_r)
|((with_reducible apply EvK.cond_t);(case hc=>exact rfl))
|((with_reducible apply EvO.spd_t);(case hp=>exact fao))
|((with_reducible apply EvO.spd_yt);(case hp=>exact fao))
|(with_reducible apply EvO.nilT)
|((with_reducible apply EvO.gt0);(case hW=>exact rfl);(case hx=>first
|(exact oqF kN)
|exact opq))
|((with_reducible apply EvO.u0);(case hx=>first
|(exact oqF kst)
|(exact oqX kt)
|exact opq))
|fail)
     all_goals exact ⟨.inr rfl,rfl⟩
    | false=>
     rw [hi] at h2
     have hni:¬ (strictK t.kind=s∧0≤c∧0≤c - t.first∧c - t.first < numberS S t.cols):=fun h=>by rw [inT_iff.2 h] at hi;cases hi
     rw [hN] at kN hni
     by_cases hs:strictK t.kind=s
     ·
      rw [hs] at kst
      by_cases h0:0≤c
      ·
       cases s <;>
       repeat' (first
|(with_reducible first|apply EvK.seq|apply EvK.block)
|((with_reducible apply EvK.text);(try case hm=>exact rfl))
|(with_reducible first|apply EvK.skip|apply thenK_n|apply blockK_n)
|((with_reducible apply EvK.cond_t);(case hc=>exact rfl))
|((with_reducible apply EvK.cond_f);(case hc=>exact rfl))
|((with_reducible apply EvO.spd_t);(case hp=>exact fao))
|((with_reducible apply EvO.spd_yt);(case hp=>exact fao))
|((with_reducible apply EvO.spd_y) <;> intro hq)
|(with_reducible apply EvO.nilT)
|((with_reducible apply EvO.gf);(case hW=>exact rfl))
|((with_reducible apply EvO.gt0);(case hW=>exact rfl);(case hx=>first
|(exact oqF kN)
|exact opq))
|((with_reducible apply EvO.u0);(case hx=>first
|(exact oqF kst)
|exact opq))
|fail)
       all_goals first
        | exact ⟨q+1,rfl,rfl,⟨by omega,h2⟩,by omega⟩
        | (exfalso;apply hni;exact ⟨hs,by omega,by omega,by omega⟩)
      ·
       cases s <;>
       repeat' (first
|(with_reducible first|apply EvK.seq|apply EvK.block)
|((with_reducible apply EvK.text);(try case hm=>exact rfl))
|(with_reducible first|apply EvK.skip|apply thenK_n|apply blockK_n)
|((with_reducible apply EvK.cond_t);(case hc=>exact rfl))
|((with_reducible apply EvK.cond_f);(case hc=>exact rfl))
|((with_reducible apply EvO.spd_t);(case hp=>exact fao))
|((with_reducible apply EvO.spd_yf);(case hp=>exact fao))
|(with_reducible apply EvO.nilT)
|((with_reducible apply EvO.gf);(case hW=>exact rfl))
|((with_reducible apply EvO.gt0);(case hW=>exact rfl);(case hx=>exact opq))
|((with_reducible apply EvO.u0);(case hx=>first
|((with_reducible apply OpR.subw);(case hx|hy=>exact rfl))
|(exact oqF kst)
|exact opq))
|fail)
       all_goals exact ⟨q+1,rfl,rfl,⟨by omega,h2⟩,by omega⟩
     ·
      have hst:strictK t.kind=!s:=by cases s <;> simp_all
      rw [hst] at kst
      cases s <;>
      repeat' (first
|(with_reducible first|apply EvK.seq|apply EvK.block)
|((with_reducible apply EvK.text);(try case hm=>exact rfl))
|(with_reducible first|apply EvK.skip|apply thenK_n|apply blockK_n)
|((with_reducible apply EvK.cond_t);(case hc=>exact rfl))
|((with_reducible apply EvK.cond_f);(case hc=>exact rfl))
|((with_reducible apply EvO.spd_t);(case hp=>exact fao))
|(with_reducible apply EvO.nilT)
|((with_reducible apply EvO.gf);(case hW=>exact rfl))
|((with_reducible apply EvO.u0);(case hx=>first
|((with_reducible apply OpR.subw);(case hx|hy=>exact rfl))
|(exact oqF kst)
|exact opq))
|fail)
      all_goals exact ⟨q+1,rfl,rfl,⟨by omega,h2⟩,by omega⟩
   ·
    exfalso
    rw [findG_end h3] at h2
    cases h2
end Go.Proofs.YtgbfedgghjcdcaaGreatDoor
