/- The code's models,part by part,as contracts: constraints,operations. No condition. -/
import Derived.Test.YtcpgmmlaimkojaaGreatDoorTLC
import Derived.Test.YtcpgmmlaimkojaaGreatDoorTNF
set_option linter.unusedSimpArgs false
set_option linter.unusedVariables false
set_option linter.unusedSectionVars false
namespace Go.Proofs.YtcpgmmlaimkojaaGreatDoor
open Go.RowKit
set_option maxRecDepth 100000
set_option maxHeartbeats 32000000
theorem jcons_c {m:Md} {l:List (Int×Int)} (hv:layB m.sorts m.tables=true) (hm:MdL m) (hl:l.length≤100000) (hr:∀ r∈l,-1000000≤r.1∧r.1≤1000000):Cl cfg 87 [.t (.agg (jdC m l))] [] (.t (.bool (consC m l))) []:=by
 have hlC:=cnE_len m.cons
 have hlN:=nmE_len m.fams
 have hlL:=rgE_len l
 have hmc:=hm.cons
 have hmf:=hm.fams
 have kg:=fun (c:Cn) (h:c.row.terms.length≤140737488351232)=>jgraph_c (l:=l) hm hv h
 have kr:=fun (r:Rw) (h:r.terms.length≤140737488351232)=>jrow_c (m:=m) (l:=l) h hl
 have e0:consC m l=((decide (m.cons.length≤512) && decide (2 * l.length≤m.cons.length)) && allG (conC m l) 0 (m.cons.drop 0)):=rfl
 rw [e0]
 unfold jdC at kg kr ⊢
 refine Cl.of_body rfl Tryz.func87 rfl rfl rfl ?_
 by_cases h0:m.cons.length≤512∧2 * l.length≤m.cons.length
 ·
  rw [decide_eq_true h0.1,decide_eq_true h0.2,Bool.true_and,Bool.true_and]
  obtain ⟨h01,h02⟩:=h0
  refine drvR ?_
  refine EvL.ind (fun q:Nat=>[(28,.t (.int .i64 (q:Int)))]) (fun q=>q≤m.cons.length∧allG (conC m l) 0 (m.cons.drop 0)=allG (conC m l) q (m.cons.drop q)) (fun q=>m.cons.length - q) 0 rfl ⟨by omega,rfl⟩ (fun q hq=>?_)
  obtain ⟨h1,h2⟩:=hq
  rw [h2]
  rcases Nat.lt_or_ge q m.cons.length with h3|h3
  ·
   obtain ⟨c,hcq⟩:=get_of_lt h3
   have hc:=cnE_get hcq
   have hct:=hm.terms c (List.mem_of_getElem? hcq)
   have kg:=kg c (by omega)
   have kr:=kr c.row (by omega)
   have ki:=mindex_c c.fam (m.fams.length:Int)
   have e1:cnC c=[.int .i64 c.kind,.int .i64 c.fam,.arr (tmE c.row.terms),.int .i64 c.row.bound,.int .i64 c.first,.int .i64 c.size]:=rfl
   have e2:rwC c.row=[.arr (tmE c.row.terms),.int .i64 c.row.bound]:=rfl
   rw [e1] at kg
   rw [e2] at kr
   have hbad:=allG_bad (p:=conC m l) hcq
   have hok:=allG_ok (p:=conC m l) hcq
   obtain ⟨bf,hbf⟩:∃ b,(decide (0≤c.fam) && decide (c.fam < (m.fams.length:Int)))=b:=⟨_,rfl⟩
   obtain ⟨rb,hrb⟩:∃ b,rowB l.length c.row=b:=⟨_,rfl⟩
   obtain ⟨g,hg⟩:∃ b,graphB m c=b:=⟨_,rfl⟩
   have hcon:conC m l q c=(bf && ((if c.kind=0 then decide (c.first=0) && (decide (c.size=0) && rb) else decide (c.kind=1) && g) && (match l[q / 2]? with|some r=>decide (c.kind=0) && decide (c.row=if q % 2=0 then rowLo (q / 2) r else rowHi (q / 2) r)|none=>true))):=by
    unfold conC;rw [hbf,hrb,hg];rfl
   rw [hbf] at ki
   rw [hrb] at kr
   rw [hg] at kg
   have hq2:((q:Nat):Int).tdiv 2=((q / 2:Nat):Int):=rfl
   have hq3:((q:Nat):Int).tmod 2=((q % 2:Nat):Int):=rfl
   cases bf with
   | false=>
    rw [hbad (by rw [hcon];simp)]
    exact drv
   | true=>
    rw [Bool.true_and] at hcon
    by_cases hk:c.kind=0
    ·
     rw [if_pos hk,decide_eq_true hk] at hcon
     by_cases hfs:(c.first=0∧c.size=0)∧rb=true
     ·
      obtain ⟨⟨hfs1,hfs2⟩,hfs3⟩:=hfs
      rw [hfs3] at kr
      rw [decide_eq_true hfs1,decide_eq_true hfs2,hfs3] at hcon
      simp only [Bool.and_self,Bool.true_and] at hcon
      rcases Nat.lt_or_ge (q / 2) l.length with hi|hi
      ·
       obtain ⟨r,hlr⟩:=get_of_lt hi
       have hcr:=rgE_get hlr
       have hrb':=hr r (List.mem_of_getElem? hlr)
       rw [hlr] at hcon
       dsimp only at hcon
       rcases Nat.mod_two_eq_zero_or_one q with hp|hp
       ·
        have ks:=msingle_c (r:=c.row) (c:=((q / 2:Nat):Int)) (f := -1) (b:=0 - r.1) (by omega)
        have e3:(⟨[⟨((q / 2:Nat):Int),-1⟩],0 - r.1⟩:Rw)=rowLo (q / 2) r:=by unfold rowLo;rw [Int.zero_sub]
        rw [e3] at ks
        rw [if_pos hp] at hcon
        rw [e2] at ks
        have hq4:((q % 2:Nat):Int)=0:=by omega
        cases hd:decide (c.row=rowLo (q / 2) r) with
        | true=>
         rw [hd] at ks hcon
         repeat' (first
|(with_reducible first|apply EvK.seq|apply EvK.block)
|((with_reducible apply EvK.text);(try case hm=>exact rfl))
|((with_reducible apply EvK.drawn);(case hm=>exact rfl))
|(with_reducible first|apply EvK.skip|apply thenK_n|apply blockK_n)
|((with_reducible apply EvK.cond_t);(case hc=>exact rfl))
|((with_reducible apply EvK.cond_f);(case hc=>exact rfl))
|((with_reducible apply EvO.spd_t);(case hp=>exact fao))
|((with_reducible apply EvO.spn_f);(case hp=>exact fao))
|((with_reducible apply EvO.spn_yf);(case hp=>exact fao))
|(with_reducible apply EvO.nilT)
|((with_reducible apply EvO.gt0);(case hW=>exact rfl);(case hx=>first
|((with_reducible apply OpR.quov);(case hx|hy=>exact rfl);(case hn=>omega);(case h=>exact hq2);(case hb=>omega))
|(exact oqF kr)
|(exact oqF ks)
|exact opq))
|((with_reducible apply EvO.u0);(case hx=>first
|((with_reducible apply OpR.quov);(case hx|hy=>exact rfl);(case hn=>omega);(case h=>exact hq2);(case hb=>omega))
|((with_reducible apply OpR.remv);(case hx|hy=>exact rfl);(case hn=>omega);(case h=>exact hq3))
|((with_reducible apply OpR.negr);(case hx=>exact rfl);(case h=>omega))
|(exact oqF ki)
|exact opq))
|fail)
         exact ⟨q+1,rfl,rfl,⟨by omega,hok hcon⟩,by omega⟩
        | false=>
         rw [hd] at ks hcon
         rw [hbad (by rw [hcon];decide)]
         repeat' (first
|(with_reducible first|apply EvK.seq|apply EvK.block)
|((with_reducible apply EvK.text);(try case hm=>exact rfl))
|((with_reducible apply EvK.drawn);(case hm=>exact rfl))
|(with_reducible first|apply EvK.skip|apply EvK.ret|apply thenK_n|apply thenK_r|apply blockK_n|apply blockK_r)
|((with_reducible apply EvK.cond_t);(case hc=>exact rfl))
|((with_reducible apply EvK.cond_f);(case hc=>exact rfl))
|((with_reducible apply EvO.spd_t);(case hp=>exact fao))
|((with_reducible apply EvO.spn_f);(case hp=>exact fao))
|((with_reducible apply EvO.spn_yf);(case hp=>exact fao))
|(with_reducible apply EvO.nilT)
|((with_reducible apply EvO.gt0);(case hW=>exact rfl);(case hx=>first
|((with_reducible apply OpR.quov);(case hx|hy=>exact rfl);(case hn=>omega);(case h=>exact hq2);(case hb=>omega))
|(exact oqF kr)
|(exact oqF ks)
|exact opq))
|((with_reducible apply EvO.u0);(case hx=>first
|((with_reducible apply OpR.quov);(case hx|hy=>exact rfl);(case hn=>omega);(case h=>exact hq2);(case hb=>omega))
|((with_reducible apply OpR.remv);(case hx|hy=>exact rfl);(case hn=>omega);(case h=>exact hq3))
|((with_reducible apply OpR.negr);(case hx=>exact rfl);(case h=>omega))
|(exact oqF ki)
|exact opq))
|fail)
         exact ⟨.inr rfl,rfl⟩
       ·
        have ks:=msingle_c (r:=c.row) (c:=((q / 2:Nat):Int)) (f:=1) (b:=r.2) (by omega)
        have e3:(⟨[⟨((q / 2:Nat):Int),1⟩],r.2⟩:Rw)=rowHi (q / 2) r:=rfl
        rw [e3] at ks
        rw [if_neg (by omega)] at hcon
        rw [e2] at ks
        have hq4:¬ ((q % 2:Nat):Int)=0:=by omega
        cases hd:decide (c.row=rowHi (q / 2) r) with
        | true=>
         rw [hd] at ks hcon
         repeat' (first
|(with_reducible first|apply EvK.seq|apply EvK.block)
|((with_reducible apply EvK.text);(try case hm=>exact rfl))
|(with_reducible first|apply EvK.skip|apply thenK_n|apply blockK_n)
|((with_reducible apply EvK.cond_t);(case hc=>exact rfl))
|((with_reducible apply EvK.cond_f);(case hc=>exact rfl))
|((with_reducible apply EvO.spd_t);(case hp=>exact fao))
|((with_reducible apply EvO.spd_f);(case hp=>exact fao))
|((with_reducible apply EvO.spn_f);(case hp=>exact fao))
|((with_reducible apply EvO.spn_yf);(case hp=>exact fao))
|(with_reducible apply EvO.nilT)
|((with_reducible apply EvO.gt0);(case hW=>exact rfl);(case hx=>first
|((with_reducible apply OpR.quov);(case hx|hy=>exact rfl);(case hn=>omega);(case h=>exact hq2);(case hb=>omega))
|(exact oqF kr)
|(exact oqF ks)
|exact opq))
|((with_reducible apply EvO.u0);(case hx=>first
|((with_reducible apply OpR.quov);(case hx|hy=>exact rfl);(case hn=>omega);(case h=>exact hq2);(case hb=>omega))
|((with_reducible apply OpR.remv);(case hx|hy=>exact rfl);(case hn=>omega);(case h=>exact hq3))
|(exact oqF ki)
|exact opq))
|fail)
         exact ⟨q+1,rfl,rfl,⟨by omega,hok hcon⟩,by omega⟩
        | false=>
         rw [hd] at ks hcon
         rw [hbad (by rw [hcon];decide)]
         repeat' (first
|(with_reducible first|apply EvK.seq|apply EvK.block)
|((with_reducible apply EvK.text);(try case hm=>exact rfl))
|(with_reducible first|apply EvK.skip|apply EvK.ret|apply thenK_n|apply thenK_r|apply blockK_n|apply blockK_r)
|((with_reducible apply EvK.cond_t);(case hc=>exact rfl))
|((with_reducible apply EvK.cond_f);(case hc=>exact rfl))
|((with_reducible apply EvO.spd_t);(case hp=>exact fao))
|((with_reducible apply EvO.spd_f);(case hp=>exact fao))
|((with_reducible apply EvO.spn_f);(case hp=>exact fao))
|((with_reducible apply EvO.spn_yf);(case hp=>exact fao))
|(with_reducible apply EvO.nilT)
|((with_reducible apply EvO.gt0);(case hW=>exact rfl);(case hx=>first
|((with_reducible apply OpR.quov);(case hx|hy=>exact rfl);(case hn=>omega);(case h=>exact hq2);(case hb=>omega))
|(exact oqF kr)
|(exact oqF ks)
|exact opq))
|((with_reducible apply EvO.u0);(case hx=>first
|((with_reducible apply OpR.quov);(case hx|hy=>exact rfl);(case hn=>omega);(case h=>exact hq2);(case hb=>omega))
|((with_reducible apply OpR.remv);(case hx|hy=>exact rfl);(case hn=>omega);(case h=>exact hq3))
|(exact oqF ki)
|exact opq))
|fail)
         exact ⟨.inr rfl,rfl⟩
      ·
       rw [List.getElem?_eq_none hi] at hcon
       repeat' (first
|(with_reducible first|apply EvK.seq|apply EvK.block)
|((with_reducible apply EvK.text);(try case hm=>exact rfl))
|(with_reducible first|apply EvK.skip|apply thenK_n|apply blockK_n)
|((with_reducible apply EvK.cond_t);(case hc=>exact rfl))
|((with_reducible apply EvK.cond_f);(case hc=>exact rfl))
|((with_reducible apply EvO.spd_t);(case hp=>exact fao))
|((with_reducible apply EvO.spd_f);(case hp=>exact fao))
|((with_reducible apply EvO.spn_f);(case hp=>exact fao))
|((with_reducible apply EvO.spn_yf);(case hp=>exact fao))
|(with_reducible apply EvO.nilT)
|((with_reducible apply EvO.gt0);(case hW=>exact rfl);(case hx=>first
|(exact oqF kr)
|exact opq))
|((with_reducible apply EvO.u0);(case hx=>first
|((with_reducible apply OpR.quov);(case hx|hy=>exact rfl);(case hn=>omega);(case h=>exact hq2);(case hb=>omega))
|(exact oqF ki)
|exact opq))
|fail)
       exact ⟨q+1,rfl,rfl,⟨by omega,hok hcon⟩,by omega⟩
     ·
      rw [hbad (by
       rw [hcon]
       intro h
       rw [Bool.and_eq_true,Bool.and_eq_true,Bool.and_eq_true,decide_eq_true_eq,decide_eq_true_eq] at h
       exact hfs ⟨⟨h.1.1,h.1.2.1⟩,h.1.2.2⟩)]
      cases rb with
      | false=>
       exact drv
      | true=>
       by_cases hf1:c.first=0
       ·
        have hf2:¬ c.size=0:=fun h=>hfs ⟨⟨hf1,h⟩,rfl⟩
        exact drv
       ·
        exact drv
    ·
     rw [if_neg hk,decide_eq_false hk] at hcon
     by_cases hk1:c.kind=1∧g=true
     ·
      obtain ⟨hk2,hk3⟩:=hk1
      rw [hk3] at kg
      rw [decide_eq_true hk2,hk3,Bool.true_and,Bool.true_and] at hcon
      rcases Nat.lt_or_ge (q / 2) l.length with hi|hi
      ·
       obtain ⟨r,hlr⟩:=get_of_lt hi
       have hcr:=rgE_get hlr
       have hrb':=hr r (List.mem_of_getElem? hlr)
       rw [hlr] at hcon
       dsimp only at hcon
       rw [Bool.false_and] at hcon
       rw [hbad (by rw [hcon];decide)]
       rcases Nat.mod_two_eq_zero_or_one q with hp|hp
       ·
        have hq4:((q % 2:Nat):Int)=0:=by omega
        repeat' (first
|(with_reducible first|apply EvK.seq|apply EvK.block)
|((with_reducible apply EvK.text);(try case hm=>exact rfl))
|((with_reducible apply EvK.drawn);(case hm=>exact rfl))
|(with_reducible first|apply EvK.skip|apply EvK.ret|apply thenK_n|apply thenK_r|apply blockK_n|apply blockK_r)
|((with_reducible apply EvK.cond_t);(case hc=>exact rfl))
|((with_reducible apply EvK.cond_f);(case hc=>exact rfl))
|((with_reducible apply EvO.spd_t);(case hp=>exact fao))
|((with_reducible apply EvO.spd_f);(case hp=>exact fao))
|((with_reducible apply EvO.spn_t);(case hp=>exact fao))
|((with_reducible apply EvO.spn_f);(case hp=>exact fao))
|(with_reducible apply EvO.nilT)
|((with_reducible apply EvO.gf);(case hW=>exact rfl))
|((with_reducible apply EvO.gt0);(case hW=>exact rfl);(case hx=>first
|(exact oqF kg)
|exact opq))
|((with_reducible apply EvO.u0);(case hx=>first
|((with_reducible apply OpR.quov);(case hx|hy=>exact rfl);(case hn=>omega);(case h=>exact hq2);(case hb=>omega))
|((with_reducible apply OpR.remv);(case hx|hy=>exact rfl);(case hn=>omega);(case h=>exact hq3))
|((with_reducible apply OpR.negr);(case hx=>exact rfl);(case h=>omega))
|(exact oqF ki)
|exact opq))
|fail)
        exact ⟨.inr rfl,rfl⟩
       ·
        have hq4:¬ ((q % 2:Nat):Int)=0:=by omega
        repeat' (first
|(with_reducible first|apply EvK.seq|apply EvK.block)
|((with_reducible apply EvK.text);(try case hm=>exact rfl))
|(with_reducible first|apply EvK.skip|apply EvK.ret|apply thenK_n|apply thenK_r|apply blockK_n|apply blockK_r)
|((with_reducible apply EvK.cond_t);(case hc=>exact rfl))
|((with_reducible apply EvK.cond_f);(case hc=>exact rfl))
|((with_reducible apply EvO.spd_t);(case hp=>exact fao))
|((with_reducible apply EvO.spd_f);(case hp=>exact fao))
|((with_reducible apply EvO.spn_t);(case hp=>exact fao))
|((with_reducible apply EvO.spn_f);(case hp=>exact fao))
|(with_reducible apply EvO.nilT)
|((with_reducible apply EvO.gf);(case hW=>exact rfl))
|((with_reducible apply EvO.gt0);(case hW=>exact rfl);(case hx=>first
|(exact oqF kg)
|exact opq))
|((with_reducible apply EvO.u0);(case hx=>first
|((with_reducible apply OpR.quov);(case hx|hy=>exact rfl);(case hn=>omega);(case h=>exact hq2);(case hb=>omega))
|((with_reducible apply OpR.remv);(case hx|hy=>exact rfl);(case hn=>omega);(case h=>exact hq3))
|(exact oqF ki)
|exact opq))
|fail)
        exact ⟨.inr rfl,rfl⟩
      ·
       rw [List.getElem?_eq_none hi] at hcon
       repeat' (first
|(with_reducible first|apply EvK.seq|apply EvK.block)
|((with_reducible apply EvK.text);(try case hm=>exact rfl))
|(with_reducible first|apply EvK.skip|apply thenK_n|apply blockK_n)
|((with_reducible apply EvK.cond_t);(case hc=>exact rfl))
|((with_reducible apply EvK.cond_f);(case hc=>exact rfl))
|((with_reducible apply EvO.spd_t);(case hp=>exact fao))
|((with_reducible apply EvO.spd_f);(case hp=>exact fao))
|((with_reducible apply EvO.spn_f);(case hp=>exact fao))
|(with_reducible apply EvO.nilT)
|((with_reducible apply EvO.gt0);(case hW=>exact rfl);(case hx=>first
|(exact oqF kg)
|exact opq))
|((with_reducible apply EvO.u0);(case hx=>first
|((with_reducible apply OpR.quov);(case hx|hy=>exact rfl);(case hn=>omega);(case h=>exact hq2);(case hb=>omega))
|(exact oqF ki)
|exact opq))
|fail)
       exact ⟨q+1,rfl,rfl,⟨by omega,hok hcon⟩,by omega⟩
     ·
      rw [hbad (by
       rw [hcon]
       intro h
       rw [Bool.and_eq_true,Bool.and_eq_true,decide_eq_true_eq] at h
       exact hk1 h.1)]
      cases g with
      | false=>
       exact drv
      | true=>
       have hk2:¬ c.kind=1:=fun h=>hk1 ⟨h,rfl⟩
       exact drv
  ·
   rw [allG_end h3]
   exact drv
 ·
  have hno:(decide (m.cons.length≤512) && decide (2 * l.length≤m.cons.length))=false:=by
   rw [← Bool.not_eq_true,Bool.and_eq_true,decide_eq_true_eq,decide_eq_true_eq];exact h0
  rw [hno]
  repeat' (first
|(with_reducible apply EvK.seq)
|((with_reducible apply EvK.text);(try case hm=>exact rfl))
|(with_reducible first|apply EvK.ret|apply thenK_r)
|((with_reducible apply EvK.cond_t);(case hc=>exact rfl))
|((with_reducible apply EvO.spd) <;> intro hq)
|((with_reducible apply EvO.spd_yt);(case hp=>exact fao))
|(with_reducible apply EvO.nilT)
|((with_reducible apply EvO.gf);(case hW=>exact rfl))
|((with_reducible apply EvO.gt0);(case hW=>exact rfl);(case hx=>first
|((with_reducible apply OpR.mul);(case hx|hy=>exact rfl);(case h=>omega))
|exact opq))
|((with_reducible apply EvO.u0);(case hx=>exact opq))
|fail)
  all_goals first
   | exact ⟨.inr rfl,rfl⟩
   | (exfalso;apply h0;constructor <;> omega)
theorem jops1_c {m:Md} {l:List (Int×Int)} {s:Int} (hm:MdL m):Cl cfg 119 [.t (.int .i64 s),.t (.tp (jdC m l))] [] (.t (.bool (!(decide (-1≤s) && decide (s < (m.sorts.length:Int)))))) []:=by
 have hS:=intsE_len m.sorts
 have hms:=hm.sorts
 unfold jdC
 refine Cl.of_body rfl Tryz.func119 rfl rfl rfl ?_
 exact drv
theorem nm_snoc {m:Md} {q:Nat} {o:Opn} (ho:m.ops[q]?=some o):nmE ((m.ops.take q).map (·.name))++[[.str o.name]]=nmE ((m.ops.take (q+1)).map (·.name)):=by
 rw [List.take_add_one,ho]
 simp [nmE]
theorem jops_c {m:Md} {l:List (Int×Int)} (hm:MdL m) (hop:m.ops.length≤4398046511104):Cl cfg 88 [.t (.agg (jdC m l))] [] (.t (.bool ((decide ((m.ops.map (·.name)).length≤8) && distB (m.ops.map (·.name))) && m.ops.all (opOk m)))) []:=by
 have hlO:=opE_len m.ops
 have hmo:=hm.ops
 have ko:=fun (o:Opn) (ho:o∈m.ops)=>conopsi_c (C:=o.sorts) (p:=fun s=>!(decide (-1≤s) && decide (s < (m.sorts.length:Int)))) (c1:=.tp (jdC m l)) (by have:=hm.osorts o ho;omega) (fun s _=>jops1_c hm)
 have kd:=mdist_c (N:=m.ops.map (·.name)) (by rw [List.length_map];omega)
 have hlM:(nmE (m.ops.map (·.name))).length=m.ops.length:=by rw [nmE_len,List.length_map]
 have hlM2:(m.ops.map (·.name)).length=m.ops.length:=List.length_map _
 obtain ⟨d,hd⟩:∃ d,distB (m.ops.map (·.name))=d:=⟨_,rfl⟩
 rw [hd] at kd ⊢
 obtain ⟨Y,hY⟩:∃ Y,(decide ((m.ops.map (·.name)).length≤8) && d)=Y:=⟨_,rfl⟩
 have hY2:(decide (m.ops.length≤8) && d)=Y:=by rw [← hY,List.length_map]
 rw [hY,Bool.and_comm]
 have e0:m.ops.all (opOk m)=(m.ops.drop 0).all (opOk m):=rfl
 rw [e0]
 unfold jdC at ko ⊢
 refine Cl.of_body rfl Tryz.func88 rfl rfl rfl ?_
 refine drvR ?_
 refine EvL.indF (fun x:Nat×Bool=>[(3,.ls 1),(10,.t (.int .i64 (x.1:Int)))]) (fun x=>[.box false 138 (([intsA m.sorts,.arr (tbE m.tables),.arr (nmE m.fams),.arr (cnE m.cons),.arr (opE m.ops),.arr (acE m.acts),.arr (hdE m.hides),.arr (rgE l)]:List AV).map .t),.row false x.2 1 (nmE ((m.ops.take x.1).map (·.name)))]) (fun x=>x.1≤m.ops.length∧(m.ops.drop 0).all (opOk m)=(m.ops.drop x.1).all (opOk m)) (fun x=>m.ops.length - x.1) (0,false) rfl rfl ⟨by dsimp only;omega,rfl⟩ (fun x hq=>?_)
 obtain ⟨q,tch⟩:=x
 dsimp only at hq ⊢
 obtain ⟨h1,h2⟩:=hq
 rw [h2]
 rcases Nat.lt_or_ge q m.ops.length with h3|h3
 ·
  obtain ⟨o,ho⟩:=get_of_lt h3
  have hoc:=opE_get ho
  have hos:=hm.osorts o (List.mem_of_getElem? ho)
  have hlo:=intsE_len o.sorts
  have hht:=all_hit (opOk m) ho
  have hsn:=nm_snoc ho
  have hlX:lenOk ((nmE ((m.ops.take q).map (·.name))).length+1) 16=true:=by
   rw [nmE_len]
   simp [lenOk]
   omega
  have kO:=ko o (List.mem_of_getElem? ho)
  obtain ⟨b,hb⟩:∃ b,(o.sorts.any fun s=>!(decide (-1≤s) && decide (s < (m.sorts.length:Int))))=b:=⟨_,rfl⟩
  have hop:opOk m o=(!b && decide (o.sorts.length≤3)):=by
   unfold opOk
   rw [any_not,hb]
  rw [hb] at kO
  rw [hop] at hht
  rw [hht]
  by_cases hl3:o.sorts.length≤3
  ·
   rw [decide_eq_true hl3]
   cases b with
   | true=>
    repeat' (first
|(with_reducible first|apply EvK.seq|apply EvK.block)
|((with_reducible apply EvK.text);(try case hm=>exact rfl))
|(with_reducible first|apply EvK.skip|apply EvK.ret|apply thenK_n|apply thenK_r|apply blockK_r)
|((with_reducible apply EvK.cond_t);(case hc=>exact rfl))
|((with_reducible apply EvO.spd_t);(case hp=>exact fao))
|((with_reducible apply EvO.spd_f);(case hp=>exact fao))
|(with_reducible apply EvO.nilT)
|((with_reducible apply EvO.u);(case hx=>((with_reducible apply OpR.apr);(case hs=>exact fun _=>rfl);(case ha|ht=>exact rfl);(case hr=>first|(with_reducible exact rw0)|(with_reducible exact rw1)|(with_reducible exact rw2)|(with_reducible exact rw3)|(with_reducible exact rw4)|exact rfl);(case hx|hy|hn|hb|hok=>exact rfl);(case hlen=>exact hlX);(case hv=>exact hsn);(case hk=>exact kfr);(case hf=>exact leq))))
|((with_reducible apply EvO.gt0);(case hW=>exact rfl);(case hx=>first
|(exact oqF kO)
|exact opq))
|((with_reducible apply EvO.u0);(case hx=>exact opq))
|fail)
    exact ⟨.inr rfl,rfl⟩
   | false=>
    repeat' (first
|(with_reducible first|apply EvK.seq|apply EvK.block)
|((with_reducible apply EvK.text);(try case hm=>exact rfl))
|(with_reducible first|apply EvK.skip|apply thenK_n|apply blockK_n)
|((with_reducible apply EvK.cond_t);(case hc=>exact rfl))
|((with_reducible apply EvK.cond_f);(case hc=>exact rfl))
|((with_reducible apply EvO.spd_t);(case hp=>exact fao))
|((with_reducible apply EvO.spd_f);(case hp=>exact fao))
|(with_reducible apply EvO.nilT)
|((with_reducible apply EvO.u);(case hx=>((with_reducible apply OpR.apr);(case hs=>exact fun _=>rfl);(case ha|ht=>exact rfl);(case hr=>first|(with_reducible exact rw0)|(with_reducible exact rw1)|(with_reducible exact rw2)|(with_reducible exact rw3)|(with_reducible exact rw4)|exact rfl);(case hx|hy|hn|hb|hok=>exact rfl);(case hlen=>exact hlX);(case hv=>exact hsn);(case hk=>exact kfr);(case hf=>exact leq))))
|((with_reducible apply EvO.gt0);(case hW=>exact rfl);(case hx=>first
|(exact oqF kO)
|exact opq))
|((with_reducible apply EvO.u0);(case hx=>exact opq))
|fail)
    exact ⟨(q+1,true),rfl,rfl,⟨by dsimp only;omega,rfl⟩,by dsimp only;omega⟩
  ·
   rw [decide_eq_false hl3,Bool.and_false]
   repeat' (first
|(with_reducible first|apply EvK.seq|apply EvK.block)
|((with_reducible apply EvK.text);(try case hm=>exact rfl))
|(with_reducible first|apply EvK.skip|apply EvK.ret|apply thenK_n|apply thenK_r|apply blockK_r)
|((with_reducible apply EvK.cond_t);(case hc=>exact rfl))
|((with_reducible apply EvO.spd_t);(case hp=>exact fao))
|(with_reducible apply EvO.nilT)
|((with_reducible apply EvO.gf);(case hW=>exact rfl))
|((with_reducible apply EvO.u);(case hx=>((with_reducible apply OpR.apr);(case hs=>exact fun _=>rfl);(case ha|ht=>exact rfl);(case hr=>first|(with_reducible exact rw0)|(with_reducible exact rw1)|(with_reducible exact rw2)|(with_reducible exact rw3)|(with_reducible exact rw4)|exact rfl);(case hx|hy|hn|hb|hok=>exact rfl);(case hlen=>exact hlX);(case hv=>exact hsn);(case hk=>exact kfr);(case hf=>exact leq))))
|((with_reducible apply EvO.u0);(case hx=>exact opq))
|fail)
   exact ⟨.inr rfl,rfl⟩
 ·
  rw [alle _ h3,List.take_of_length_le h3,Bool.true_and,← hY2]
  by_cases h8:m.ops.length≤8
  ·
   rw [decide_eq_true h8,Bool.true_and]
   exact drv
  ·
   rw [decide_eq_false h8,Bool.false_and]
   exact drv
end Go.Proofs.YtcpgmmlaimkojaaGreatDoor
namespace Go.Proofs.YtcpgmmlaimkojaaGreatDoor
open Go.RowKit
set_option maxRecDepth 100000
set_option maxHeartbeats 32000000
theorem cnan_c (x:Int):Cl cfg 161 [.t (.int .i64 x)] [] (.t (.bool false)) []:=by
 refine Cl.of_body rfl Tryz.func161 rfl rfl rfl ?_
 exact drv
def cmp1 (x y:Int):Int:=if x < y then -1 else if y < x then 1 else 0
theorem ccmp_c (x y:Int):Cl cfg 146 [.t (.int .i64 x),.t (.int .i64 y)] [] (.t (.int .i64 (cmp1 x y))) []:=by
 have k1:=cnan_c x
 have k2:=cnan_c y
 unfold cmp1
 refine Cl.of_body rfl Tryz.func146 rfl rfl rfl ?_
 rcases Int.lt_trichotomy x y with h|h|h
 ·
  rw [if_pos h]
  exact drv
 ·
  rw [if_neg (by omega),if_neg (by omega)]
  exact drv
 ·
  rw [if_neg (by omega),if_pos h]
  exact drv
theorem cmpL_hit {A B:List Int} {q:Nat} {x y:Int} (hx:A[q]?=some x) (hy:B[q]?=some y):cmpL (A.drop q) (B.drop q)=if cmp1 x y=0 then cmpL (A.drop (q+1)) (B.drop (q+1)) else cmp1 x y:=by
 rw [drop_get hx,drop_get hy]
 show (if x < y then -1 else if y < x then 1 else cmpL (A.drop (q+1)) (B.drop (q+1)))=_
 unfold cmp1
 split
 ·rfl
 ·split
  ·rfl
  ·rfl
theorem cmplist_c {A B:List Int} (hA:A.length≤140737488351232) (hB:B.length≤140737488351232):Cl cfg 121 [.t (intsA A),.t (intsA B)] [] (.t (.int .i64 (cmpL A B))) []:=by
 have hlA:=intsE_len A
 have hlB:=intsE_len B
 have e0:cmpL A B=cmpL (A.drop 0) (B.drop 0):=rfl
 rw [e0]
 refine Cl.of_body rfl Tryz.func121 rfl rfl rfl ?_
 refine drvR ?_
 refine EvL.ind (fun q:Nat=>[(11,.t (.int .i64 (q:Int)))]) (fun q=>q≤A.length∧q≤B.length∧cmpL (A.drop 0) (B.drop 0)=cmpL (A.drop q) (B.drop q)) (fun q=>A.length - q) 0 rfl ⟨by omega,by omega,rfl⟩ (fun q hq=>?_)
 obtain ⟨h1,h2,h3⟩:=hq
 rw [h3]
 rcases Nat.lt_or_ge q A.length with h5|h5
 ·
  obtain ⟨x,hx⟩:=get_of_lt h5
  have hcx:=intsE_get hx
  rcases Nat.lt_or_ge q B.length with h6|h6
  ·
   obtain ⟨y,hy⟩:=get_of_lt h6
   have hcy:=intsE_get hy
   have kc:=ccmp_c x y
   rw [cmpL_hit hx hy]
   obtain ⟨c,hc⟩:∃ c,cmp1 x y=c:=⟨_,rfl⟩
   rw [hc] at kc ⊢
   by_cases hz:c=0
   ·
    rw [if_pos hz]
    repeat' (first
|(with_reducible first|apply EvK.seq|apply EvK.block)
|((with_reducible apply EvK.text);(try case hm=>exact rfl))
|(with_reducible first|apply EvK.skip|apply thenK_n|apply blockK_n)
|((with_reducible apply EvK.cond_t);(case hc=>exact rfl))
|((with_reducible apply EvK.cond_f);(case hc=>exact rfl))
|((with_reducible apply EvO.spd_t);(case hp=>exact fao))
|((with_reducible apply EvO.spd_f);(case hp=>exact fao))
|((with_reducible apply EvO.spn_f);(case hp=>exact fao))
|(with_reducible apply EvO.nilT)
|((with_reducible apply EvO.u0);(case hx=>first
|(exact oqF kc)
|exact opq))
|fail)
    exact ⟨q+1,rfl,rfl,⟨by omega,by omega,rfl⟩,by omega⟩
   ·
    rw [if_neg hz]
    exact drv
  ·
   have he:cmpL (A.drop q) (B.drop q)=1:=by rw [drop_get hx,drop_end h6];rfl
   rw [he]
   exact drv
 ·
  have he:cmpL (A.drop q) (B.drop q)=if A.length < B.length then -1 else 0:=by
   rw [drop_end h5]
   rcases Nat.lt_or_ge q B.length with h6|h6
   ·obtain ⟨y,hy⟩:=get_of_lt h6
    rw [drop_get hy,if_pos (by omega)]
    rfl
   ·rw [drop_end h6,if_neg (by omega)]
    rfl
  rw [he]
  by_cases h7:A.length < B.length
  ·
   rw [if_pos h7]
   exact drv
  ·
   rw [if_neg h7]
   exact drv
theorem jact_c {m:Md} {l:List (Int×Int)} (hv:layB m.sorts m.tables=true) (hm:MdL m) (hef:∀ a∈m.acts,EfB a.eff) (hops:m.ops.all (opOk m)=true) (hl:l.length≤100000):Cl cfg 89 [.t (.agg (jdC m l))] [] (.t (.bool (decide (m.acts.length≤256) && allI (actOk m l.length) m.acts))) []:=by
 have hlO:=opE_len m.ops
 have hlA:=acE_len m.acts
 have hlS:=intsE_len m.sorts
 have hlL:=rgE_len l
 have hmo:=hm.ops
 have hmos:=hm.osorts
 have hma:=hm.acts
 have hmar:=hm.args
 have hfew:=lay_few hv
 have ke:=fun (a:Actn) (ha:a∈m.acts)=>jeff_c (l:=l) hv hm (hef a ha) hl
 have e0:allI (actOk m l.length) m.acts=allG (actOk m l.length) 0 (m.acts.drop 0):=rfl
 rw [e0]
 unfold jdC at ke ⊢
 refine Cl.of_body rfl Tryz.func89 rfl rfl rfl ?_
 by_cases h0:m.acts.length≤256
 ·
  rw [decide_eq_true h0,Bool.true_and]
  refine drvR ?_
  refine EvL.ind (fun q:Nat=>[(18,.t (.int .i64 (q:Int)))]) (fun q=>q≤m.acts.length∧allG (actOk m l.length) 0 (m.acts.drop 0)=allG (actOk m l.length) q (m.acts.drop q)) (fun q=>m.acts.length - q) 0 rfl ⟨by omega,rfl⟩ (fun q hq=>?_)
  obtain ⟨h1,h2⟩:=hq
  rw [h2]
  rcases Nat.lt_or_ge q m.acts.length with h3|h3
  ·
   obtain ⟨a,ha⟩:=get_of_lt h3
   have hac:=acE_get ha
   have hmem:=List.mem_of_getElem? ha
   have hla:=intsE_len a.args
   have hal:=hmar a hmem
   have kea:=ke a hmem
   rw [efC_eq] at kea
   have ki:=mindex_c a.op (m.ops.length:Int)
   have hbad:=allG_bad (p:=actOk m l.length) ha
   have hok:=allG_ok (p:=actOk m l.length) ha
   by_cases hop:0≤a.op∧a.op < m.ops.length
   ·
    obtain ⟨k0,k1⟩:=hop
    obtain ⟨o,ho⟩:=get_of_lt (xs:=m.ops) (k:=a.op.toNat) (by omega)
    have hoc:=opE_get ho
    have hlo:=intsE_len o.sorts
    have hos:=hmos o (List.mem_of_getElem? ho)
    have hoo:=List.all_eq_true.1 hops o (List.mem_of_getElem? ho)
    rw [decide_eq_true k0,decide_eq_true k1,Bool.and_self] at ki
    obtain ⟨b,hb⟩:∃ b,m.acts.getD (q - 1) zActn=b:=⟨_,rfl⟩
    have heq:=actOk_eq (n:=l.length) (i:=q) k0 k1 ho hb
    by_cases hall:a.args.length=o.sorts.length
    ·
     obtain ⟨f,hf⟩:∃ f:Nat→Int→Bool,(fun k x=>argOk m (o.sorts.getD k 0) x)=f:=⟨_,rfl⟩
     rw [hf,decide_eq_true hall,Bool.true_and] at heq
     obtain ⟨Z,hZ⟩:∃ Z,((decide (q=0) || (decide (b.op < a.op) || (decide (b.op=a.op) && lessL b.args a.args))) && effB m l.length a.eff)=Z:=⟨_,rfl⟩
     rw [hZ] at heq
     refine drvR ?_
     refine EvL.ind (fun k:Nat=>[(55,.t (.int .i64 (k:Int)))]) (fun k=>k≤o.sorts.length∧actOk m l.length q a=(allG f k (a.args.drop k) && Z)) (fun k=>o.sorts.length - k) 0 rfl ⟨by omega,heq⟩ (fun k hk=>?_)
     obtain ⟨g1,g2⟩:=hk
     rcases Nat.lt_or_ge k o.sorts.length with g3|g3
     ·
      obtain ⟨s,hs⟩:=get_of_lt g3
      obtain ⟨x,hx⟩:=get_of_lt (xs:=a.args) (k:=k) (by omega)
      have hsc:=intsE_get hs
      have hxc:=intsE_get hx
      have hso:=op_at hoo hs
      have ka:=maround_c x (m:=9999) (.inr (.inr rfl))
      rw [allG_hit hx] at g2
      have hfx:f k x=argOk m s x:=by rw [← hf];show argOk m (o.sorts.getD k 0) x=_;rw [List.getD_eq_getElem?_getD,hs];rfl
      rw [hfx] at g2
      by_cases hs0:s < 0
      ·
       rw [argOk_neg hs0] at g2
       cases hbt:btw x 9999 with
       | true=>
        rw [hbt] at ka
        rw [hbt,Bool.true_and] at g2
        repeat' (first
|(with_reducible first|apply EvK.seq|apply EvK.block)
|((with_reducible apply EvK.text);(try case hm=>exact rfl))
|(with_reducible first|apply EvK.skip|apply thenK_n|apply blockK_n)
|((with_reducible apply EvK.cond_t);(case hc=>exact rfl))
|((with_reducible apply EvK.cond_f);(case hc=>exact rfl))
|((with_reducible apply EvO.spd_t);(case hp=>exact fao))
|((with_reducible apply EvO.spd_yf);(case hp=>exact fao))
|(with_reducible apply EvO.nilT)
|((with_reducible apply EvO.gf);(case hW=>exact rfl))
|((with_reducible apply EvO.gt0);(case hW=>exact rfl);(case hx=>first
|(exact oqF ka)
|exact opq))
|((with_reducible apply EvO.u0);(case hx=>exact opq))
|fail)
        exact ⟨k+1,rfl,rfl,⟨by omega,g2⟩,by omega⟩
       | false=>
        rw [hbt] at ka
        rw [hbt,Bool.false_and,Bool.false_and] at g2
        rw [hbad (by rw [g2];decide)]
        exact drv
      ·
       obtain ⟨n,hn⟩:=get_of_lt (xs:=m.sorts) (k:=s.toNat) (by omega)
       have hnc:=intsE_get hn
       have kx:=mindex_c x n
       rw [argOk_pos (by omega) hn] at g2
       cases hbt:(decide (0≤x) && decide (x < n)) with
       | true=>
        rw [hbt] at kx
        rw [hbt,Bool.true_and] at g2
        repeat' (first
|(with_reducible first|apply EvK.seq|apply EvK.block)
|((with_reducible apply EvK.text);(try case hm=>exact rfl))
|(with_reducible first|apply EvK.skip|apply thenK_n|apply blockK_n)
|((with_reducible apply EvK.cond_t);(case hc=>exact rfl))
|((with_reducible apply EvK.cond_f);(case hc=>exact rfl))
|((with_reducible apply EvO.spd_t);(case hp=>exact fao))
|((with_reducible apply EvO.spd_f);(case hp=>exact fao))
|((with_reducible apply EvO.spd_yt);(case hp=>exact fao))
|(with_reducible apply EvO.nilT)
|((with_reducible apply EvO.gf);(case hW=>exact rfl))
|((with_reducible apply EvO.gt0);(case hW=>exact rfl);(case hx=>first
|(exact oqF kx)
|exact opq))
|((with_reducible apply EvO.u0);(case hx=>exact opq))
|fail)
        exact ⟨k+1,rfl,rfl,⟨by omega,g2⟩,by omega⟩
       | false=>
        rw [hbt] at kx
        rw [hbt,Bool.false_and,Bool.false_and] at g2
        rw [hbad (by rw [g2];decide)]
        exact drv
     ·
      rw [allG_end (by omega),Bool.true_and,← hZ] at g2
      obtain ⟨be,hbe⟩:∃ be,effB m l.length a.eff=be:=⟨_,rfl⟩
      rw [hbe] at kea g2
      cases q with
      | zero=>
       rw [decide_eq_true rfl,Bool.true_or,Bool.true_and] at g2
       cases be with
       | false=>
        rw [hbad (by rw [g2];decide)]
        exact drv
       | true=>
        refine drvR ?_
        exact ⟨0+1,rfl,rfl,⟨by omega,hok g2⟩,by omega⟩
      | succ p=>
       obtain ⟨w,hw⟩:=get_of_lt (xs:=m.acts) (k:=p) (by omega)
       have hwc:=acE_get hw
       have hwc':(acE m.acts)[((p+1:Nat) - 1:Int).toNat]?=some [.int .i64 w.op,intsA w.args,.arr (chE w.eff.delta),.arr (rwE w.eff.hold),.arr (udE w.eff.ups)]:=by rw [show ((p+1:Nat) - 1:Int).toNat=p by omega];exact hwc
       have hgw:m.acts.getD (p+1 - 1) zActn=w:=by rw [Nat.add_sub_cancel,List.getD_eq_getElem?_getD,hw];rfl
       obtain rfl:w=b:=by rw [← hgw,hb]
       have hlw:=intsE_len w.args
       have klw:=cmplist_c (A:=w.args) (B:=a.args) (by have:=hmar w (List.mem_of_getElem? hw);omega) (by omega)
       rw [decide_eq_false (show ¬ p+1=0 by omega),Bool.false_or,← cmp_less] at g2
       obtain ⟨cl,hcl⟩:∃ cl,cmpL w.args a.args=cl:=⟨_,rfl⟩
       rw [hcl] at klw g2
       rcases Int.lt_trichotomy w.op a.op with ho1|ho1|ho1
       ·
        rw [decide_eq_true ho1,Bool.true_or,Bool.true_and] at g2
        cases be with
        | false=>
         rw [hbad (by rw [g2];decide)]
         exact drv
        | true=>
         refine drvR ?_
         exact ⟨p+1+1,rfl,rfl,⟨by omega,hok g2⟩,by omega⟩
       ·
        rw [decide_eq_false (show ¬ w.op < a.op by omega),decide_eq_true ho1,Bool.false_or,Bool.true_and] at g2
        by_cases hc0:cl < 0
        ·
         rw [decide_eq_true hc0,Bool.true_and] at g2
         cases be with
         | false=>
          rw [hbad (by rw [g2];decide)]
          exact drv
         | true=>
          refine drvR ?_
          exact ⟨p+1+1,rfl,rfl,⟨by omega,hok g2⟩,by omega⟩
        ·
         rw [decide_eq_false hc0,Bool.false_and] at g2
         rw [hbad (by rw [g2];simp)]
         exact drv
       ·
        rw [decide_eq_false (show ¬ w.op < a.op by omega),decide_eq_false (show ¬ w.op=a.op by omega)] at g2
        rw [hbad (by rw [g2];simp)]
        exact drv
    ·
     rw [decide_eq_false hall,Bool.false_and,Bool.false_and] at heq
     rw [hbad (by rw [heq];decide)]
     exact drv
   ·
    have hno:(decide (0≤a.op) && decide (a.op < (m.ops.length:Int)))=false:=by
     rw [← Bool.not_eq_true,Bool.and_eq_true,decide_eq_true_eq,decide_eq_true_eq];exact hop
    rw [hno] at ki
    rw [hbad (by rw [actOk_no hop];decide)]
    exact drv
  ·
   rw [allG_end h3]
   exact drv
 ·
  rw [decide_eq_false h0,Bool.false_and]
  exact drv
theorem decInts_E:∀ l:List Int,decInts (intsE l)=some l
 | []=>rfl
 | x::l=>by
  show decInts ([.int .i64 x]::intsE l)=_
  unfold decInts
  rw [decInts_E l]
theorem decTb_E:∀ l:List Tb,decTb (tbE l)=some l
 | []=>rfl
 | t::l=>by
  show decTb ([.str t.name,.int .i64 t.kind,.arr (intsE t.cols),.int .i64 t.lo,.int .i64 t.hi,.int .i64 t.first]::tbE l)=_
  unfold decTb
  rw [decTb_E l,decInts_E]
theorem decH_E:∀ l:List Hde,decH (hdE l)=some l
 | []=>rfl
 | h::l=>by
  show decH ([.int .i64 h.table,.int .i64 h.col,.int .i64 h.to]::hdE l)=_
  unfold decH
  rw [decH_E l]
theorem hides_of (m:Md):hidesB ⟨[],m.tables,[],[],[],[],m.hides⟩=hidesB m:=rfl
theorem jhid_c {m:Md} {l:List (Int×Int)} (hm:MdL m):Cl cfg 90 [.t (.agg (jdC m l))] [] (.t (.bool (hidesB m))) []:=by
 refine Cl.ext (xs:=[.agg (jdC m l)]) rfl rfl (ext_of_L rfl ?_)
 have h1:=hm.tables
 have h2:=hm.hides
 have e1:Nat.ble (tbE m.tables).length 17592186044416=true:=by rw [Nat.ble_eq,tbE_len];exact h1
 have e2:Nat.ble (hdE m.hides).length 17592186044416=true:=by rw [Nat.ble_eq,hdE_len];exact h2
 unfold extL jdC intsA
 simp only [Nat.beq_refl,e1,e2,Bool.and_self,decTb_E,decH_E,hides_of]
theorem rng_lo {m:Md} (hv:layB m.sorts m.tables=true):∀ r∈rngs m.sorts m.tables true,-1000000≤r.1∧r.1≤1000000:=by
 intro r hr
 unfold rngs at hr
 rw [if_pos hv] at hr
 obtain ⟨t,ht,hx⟩:=List.mem_flatMap.1 hr
 obtain ⟨k,hk⟩:=List.mem_iff_getElem?.1 ht
 have h1:=lay_tab hv hk
 rw [tabOk_iff] at h1
 unfold rngsT at hx
 split at hx
 ·obtain rfl:=List.eq_of_mem_replicate hx
  have:=h1.2.2.2.2.1
  dsimp only
  omega
 ·cases hx
theorem mvalid_c {m:Md} (hm:MdL m) (hef:∀ a∈m.acts,EfB a.eff) (hop:m.ops.length≤4398046511104):Cl cfg 44 [.t (mdA m)] [] (.t (.bool (modelB m))) []:=by
 rw [← model_eq]
 have hlN:=nmE_len m.fams
 have hmf:=hm.fams
 have kv:=clay_c (S:=m.sorts) (L:=m.tables) (by have:=hm.sorts;omega) (by have:=hm.tables;omega) (fun t ht=>by have:=hm.cols t ht;omega)
 have kd:=mdist_c (N:=m.fams) (by omega)
 cases hv:layB m.sorts m.tables with
 | false=>
  have e0:modelC m=false:=by unfold modelC;rw [lay_eq,hv];rfl
  rw [hv] at kv
  rw [mdA_eq,e0]
  refine Cl.of_body rfl Tryz.func44 rfl rfl rfl ?_
  exact drv
 | true=>
  have kr:=crngs_c (S:=m.sorts) (L:=m.tables) true hv
  have hrl:=rng_lo hv
  have hcl:=rngsC_len m.sorts true m.tables
  have hrn:(rngs m.sorts m.tables true).length≤100000:=by
   have h1:=cnt_bnd (S:=m.sorts) true m.tables
   have h2:=lay_few hv
   unfold rngs
   rw [if_pos hv]
   omega
  have kc:=jcons_c hv hm hrn hrl
  have ko:=jops_c (l:=rngs m.sorts m.tables true) hm hop
  have ka:=fun h=>jact_c (l:=rngs m.sorts m.tables true) hv hm hef h hrn
  have kh:=jhid_c (l:=rngs m.sorts m.tables true) hm
  rw [hv] at kv
  obtain ⟨R,hR⟩:∃ R,rngs m.sorts m.tables true=R:=⟨_,rfl⟩
  rw [hR] at kr kc ko ka kh
  obtain ⟨d,hd⟩:∃ d,distB m.fams=d:=⟨_,rfl⟩
  obtain ⟨b1,hb1⟩:∃ b,consC m R=b:=⟨_,rfl⟩
  obtain ⟨b2',hb2'⟩:∃ b,(decide ((m.ops.map (·.name)).length≤8) && distB (m.ops.map (·.name)))=b:=⟨_,rfl⟩
  obtain ⟨b2,hb2⟩:∃ b,m.ops.all (opOk m)=b:=⟨_,rfl⟩
  obtain ⟨b3,hb3⟩:∃ b,(decide (m.acts.length≤256) && allI (actOk m R.length) m.acts)=b:=⟨_,rfl⟩
  obtain ⟨b4,hb4⟩:∃ b,hidesB m=b:=⟨_,rfl⟩
  have e0:modelC m=((decide (m.fams.length≤24) && d) && (b1 && ((b2' && b2) && (b3 && b4)))):=by unfold modelC;rw [lay_eq,hv,hR,hd,hb1,hb2',hb2,hb3,hb4];rfl
  rw [hd] at kd
  rw [hb1] at kc
  rw [hb2',hb2] at ko
  rw [hb2,hb3] at ka
  rw [hb4] at kh
  unfold jdC at kc ko ka kh
  rw [mdA_eq]
  rw [e0]
  refine Cl.of_body rfl Tryz.func44 rfl rfl rfl ?_
  by_cases hf:m.fams.length≤24
  ·
   rw [decide_eq_true hf]
   cases d with
   | false=>
    exact drv
   | true=>
    cases b1 with
    | false=>
     exact drv
    | true=>
     obtain ⟨o2,ho2⟩:∃ o,(b2' && b2)=o:=⟨_,rfl⟩
     rw [ho2] at ko ⊢
     cases o2 with
     | false=>
      exact drv
     | true=>
      rw [Bool.and_eq_true] at ho2
      have ka:=ka ho2.2
      cases b3 with
      | false=>
       exact drv
      | true=>
       exact drv
  ·
   rw [decide_eq_false hf]
   exact drv
theorem mranges_c {m:Md} (hm:MdL m) (hef:∀ a∈m.acts,EfB a.eff) (hop:m.ops.length≤4398046511104) (h:modelB m=true):Cl cfg 103 [.t (mdA m),.t (.bool true)] [] (.ls 0) [.row false false 2 (rgE (rngs m.sorts m.tables true))]:=by
 have kv:=mvalid_c hm hef hop
 have hv:layB m.sorts m.tables=true:=by
  unfold modelB at h
  simp only [Bool.and_eq_true] at h
  exact h.1.1.1
 have kr:=crngs_c (S:=m.sorts) (L:=m.tables) true hv
 rw [h] at kv
 rw [mdA_eq] at kv ⊢
 refine Cl.of_body rfl Tryz.func103 rfl rfl rfl ?_
 exact drv
theorem mstrict_c {m:Md} (hm:MdL m) (hef:∀ a∈m.acts,EfB a.eff) (hop:m.ops.length≤4398046511104) (h:modelB m=true):Cl cfg 73 [.t (mdA m)] [] (.ls 0) [.row false false 2 (rgE (rngs m.sorts m.tables true))]:=by
 have kr:=mranges_c hm hef hop h
 rw [mdA_eq] at kr ⊢
 refine Cl.of_body rfl Tryz.func73 rfl rfl rfl ?_
 exact drv
end Go.Proofs.YtcpgmmlaimkojaaGreatDoor
