/- The reference's plans: when they are valid,as contracts. No condition. -/
import Derived.Test.YtcpgmmlaimkojaaGreatDoorTLP
import Derived.Test.YtcpgmmlaimkojaaGreatDoorTNF
set_option linter.unusedSimpArgs false
set_option linter.unusedVariables false
set_option linter.unusedSectionVars false
namespace Go.Proofs.YtcpgmmlaimkojaaGreatDoor
open Go.RowKit
set_option maxRecDepth 100000
set_option maxHeartbeats 32000000
theorem rparam_c {m:Md} {o k:Int} (hm:MdL m) (h0:0≤o) (h1:o < m.ops.length):Cl cfg 68 [.t (mdA m),.t (.int .i64 o),.t (.int .i64 k)] [] (.t (.int .i64 (sortP m o k))) []:=by
 have hlO:=opE_len m.ops
 have hmo:=hm.ops
 obtain ⟨x,hx⟩:=get_of_lt (xs:=m.ops) (k:=o.toNat) (by omega)
 have hc:=opE_get hx
 have hxs:=hm.osorts x (List.mem_of_getElem? hx)
 have hls:=intsE_len x.sorts
 unfold sortP
 rw [opn_get hx]
 rw [mdA_eq]
 refine Cl.of_body rfl Tryz.func68 rfl rfl rfl ?_
 by_cases h:0≤k∧k < x.sorts.length
 ·
  rw [if_pos h]
  obtain ⟨k0,k1⟩:=h
  obtain ⟨s,hs⟩:=get_of_lt (xs:=x.sorts) (k:=k.toNat) (by omega)
  have hsc:=intsE_get hs
  rw [List.getD_eq_getElem?_getD,hs,Option.getD_some]
  exact drv
 ·
  rw [if_neg h]
  repeat' (first
|(with_reducible apply EvK.seq)
|((with_reducible apply EvK.text);(try case hm=>exact rfl))
|(with_reducible first|apply EvK.ret|apply thenK_r)
|((with_reducible apply EvK.cond_t);(case hc=>exact rfl))
|((with_reducible apply EvO.spd) <;> intro hq)
|((with_reducible apply EvO.spd_yt);(case hp=>exact fao))
|(with_reducible apply EvO.nilT)
|((with_reducible apply EvO.gf);(case hW=>exact rfl))
|((with_reducible apply EvO.gt0);(case hW=>exact rfl);(case hx=>exact opq))
|((with_reducible apply EvO.u0);(case hx=>exact opq))
|fail)
  all_goals first
   | exact ⟨.inr rfl,rfl⟩
   | (exfalso;apply h;constructor <;> omega)
theorem rplaced_c {p:Pln} {k:Int} (hl:p.places.length≤140737488351232):Cl cfg 59 [.t (plA p),.t (.int .i64 k)] [] (.t (.bool (placedB p k))) []:=by
 have hlP:=mbE_len p.places
 have e0:placedB p k=(p.places.drop 0).any fun x=>decide (x.act=k):=rfl
 rw [e0]
 unfold plA
 rw [plC_eq]
 refine Cl.of_body rfl Tryz.func59 rfl rfl rfl ?_
 refine drvR ?_
 refine EvL.ind (fun q:Nat=>[(5,.t (.int .i64 (q:Int)))]) (fun q=>q≤p.places.length∧((p.places.drop 0).any fun x=>decide (x.act=k))=(p.places.drop q).any fun x=>decide (x.act=k)) (fun q=>p.places.length - q) 0 rfl ⟨by omega,rfl⟩ (fun q hq=>?_)
 obtain ⟨h1,h2⟩:=hq
 rw [h2]
 rcases Nat.lt_or_ge q p.places.length with h3|h3
 ·
  obtain ⟨x,hx⟩:=get_of_lt h3
  have hc:=mbE_get hx
  rw [any_hit (fun x:Mem=>decide (x.act=k)) hx]
  by_cases he:x.act=k
  ·
   rw [decide_eq_true he,Bool.true_or]
   exact drv
  ·
   rw [decide_eq_false he,Bool.false_or]
   exact drv
 ·
  rw [any_end _ h3]
  exact drv
theorem rlock_c {m:Md} {L:Lck} (hm:MdL m) (hL:L.mem.length≤140737488351232):Cl cfg 58 [.t (mdA m),.t (.agg (lkC L))] [] (.t (.bool (lockB m L))) []:=by
 have hlO:=opE_len m.ops
 have hmo:=hm.ops
 have hlA:=acE_len m.acts
 have hma:=hm.acts
 have hlM:=mbE_len L.mem
 obtain ⟨pr,hpr⟩:∃ pr:Nat→Mem→Bool,(fun (i:Nat) (x:Mem)=>decide (prevV Mem.act L.mem i < x.act) && (decide (x.act < m.acts.length) && (decide (opAt m x.act=L.a) || decide (opAt m x.act=L.b))))=pr:=⟨_,rfl⟩
 have hpi:∀ q x,pr q x=true↔prevV Mem.act L.mem q < x.act∧x.act < m.acts.length∧(opAt m x.act=L.a∨opAt m x.act=L.b):=fun q x=>by
  rw [← hpr]
  simp only [Bool.and_eq_true,Bool.or_eq_true,decide_eq_true_eq]
 have e0:lockB m L=((decide (0≤L.a) && (decide (L.a≤L.b) && decide (L.b < m.ops.length))) && (paramsB m L && allG pr 0 (L.mem.drop 0))):=by
  unfold lockB
  rw [← memsR_eq,← hpr]
  rfl
 rw [e0]
 have k1:=fun h0 h1=>rparam_c (o:=L.a) (k:=L.pa) hm h0 h1
 have k2:=fun h0 h1=>rparam_c (o:=L.b) (k:=L.pb) hm h0 h1
 rw [mdA_eq] at k1 k2 ⊢
 rw [lkC_eq]
 refine Cl.of_body rfl Tryz.func58 rfl rfl rfl ?_
 by_cases h:(0≤L.a∧L.a≤L.b)∧L.b < m.ops.length
 ·
  obtain ⟨⟨h0,h1⟩,h2⟩:=h
  rw [decide_eq_true h0,decide_eq_true h1,decide_eq_true h2,Bool.true_and,Bool.true_and,Bool.true_and]
  have k1:=k1 h0 (by omega)
  have k2:=k2 (by omega) h2
  by_cases hp:L.pa = -1∧L.pb = -1
  ·
   obtain ⟨hp1,hp2⟩:=hp
   have hpt:paramsB m L=true:=by unfold paramsB;rw [decide_eq_true hp1,decide_eq_true hp2];rfl
   rw [hpt,Bool.true_and]
   refine drvR ?_
   refine EvL.ind (fun q:Nat=>[(6,.t (.int .i64 (prevV Mem.act L.mem q))),(7,.t (.int .i64 (q:Int)))]) (fun q=>q≤L.mem.length∧allG pr 0 (L.mem.drop 0)=allG pr q (L.mem.drop q) ∧ -1≤prevV Mem.act L.mem q) (fun q=>L.mem.length - q) 0 rfl ⟨by omega,rfl,Int.le_refl _⟩ (fun q hq=>?_)
   obtain ⟨g1,g2,g4⟩:=hq
   rw [g2]
   rcases Nat.lt_or_ge q L.mem.length with g3|g3
   ·
    obtain ⟨x,hx⟩:=get_of_lt g3
    have hc:=mbE_get hx
    have hbad:=allG_bad (p:=pr) hx
    have hok:=allG_ok (p:=pr) hx
    have hpv:prevV Mem.act L.mem (q+1)=x.act:=by simp only [prevV,hx]
    rw [hpi] at hbad hok
    obtain ⟨v,hv⟩:∃ v,prevV Mem.act L.mem q=v:=⟨_,rfl⟩
    rw [hv] at hbad hok g4 ⊢
    by_cases hin:v < x.act∧x.act < m.acts.length
    ·
     obtain ⟨i0,i1⟩:=hin
     obtain ⟨a,ha⟩:=get_of_lt (xs:=m.acts) (k:=x.act.toNat) (by omega)
     have hca:=acE_get ha
     rw [opAt_get ha] at hbad hok
     by_cases ho1:a.op=L.a
     ·
      refine drvR ?_
      exact ⟨q+1,by rw [hpv];rfl,rfl,⟨by omega,hok ⟨i0,i1,.inl ho1⟩,by omega⟩,by omega⟩
     ·
      by_cases ho2:a.op=L.b
      ·
       refine drvR ?_
       first
        | exact ⟨q+1,by rw [hpv];rfl,rfl,⟨by omega,hok ⟨i0,i1,.inr ho2⟩,by omega⟩,by omega⟩
        | (exfalso;omega)
      ·
       rw [hbad (fun h=>by rcases h.2.2 with h|h <;> contradiction)]
       exact drv
    ·
     rw [hbad (fun h=>hin ⟨h.1,h.2.1⟩)]
     repeat' (first
|(with_reducible first|apply EvK.seq|apply EvK.block)
|((with_reducible apply EvK.text);(try case hm=>exact rfl))
|((with_reducible apply EvK.drawn);(case hm=>exact rfl))
|(with_reducible first|apply EvK.skip|apply EvK.ret|apply thenK_n|apply thenK_r|apply blockK_r)
|((with_reducible apply EvK.cond_t);(case hc=>exact rfl))
|((with_reducible apply EvO.spd_t);(case hp=>exact fao))
|((with_reducible apply EvO.spd) <;> intro hq)
|((with_reducible apply EvO.spd_yt);(case hp=>exact fao))
|(with_reducible apply EvO.nilT)
|((with_reducible apply EvO.gf);(case hW=>exact rfl))
|((with_reducible apply EvO.gt0);(case hW=>exact rfl);(case hx=>exact opq))
|((with_reducible apply EvO.u0);(case hx=>exact opq))
|fail)
     all_goals first
      | exact ⟨.inr rfl,rfl⟩
      | (exfalso;apply hin;constructor <;> omega)
   ·
    rw [allG_end g3]
    exact drv
  ·
   have hpi2:=params_iff (m:=m) hp
   obtain ⟨S1,hS1⟩:∃ s,sortP m L.a L.pa=s:=⟨_,rfl⟩
   obtain ⟨S2,hS2⟩:∃ s,sortP m L.b L.pb=s:=⟨_,rfl⟩
   rw [hS1] at k1 hpi2
   rw [hS2] at k2 hpi2
   by_cases hq:0≤S1∧S1=S2∧(L.a=L.b→L.pa=L.pb)
   ·
    rw [hpi2.2 hq,Bool.true_and]
    obtain ⟨q1,q2,q3⟩:=hq
    have hp3:L.pa ≠ -1∨L.pb ≠ -1:=by omega
    rcases hp3 with hp3|hp3
    ·
     by_cases hab:L.a=L.b
     ·
      have q4:=q3 hab
      refine drvR ?_
      refine EvL.ind (fun q:Nat=>[(6,.t (.int .i64 (prevV Mem.act L.mem q))),(7,.t (.int .i64 (q:Int)))]) (fun q=>q≤L.mem.length∧allG pr 0 (L.mem.drop 0)=allG pr q (L.mem.drop q) ∧ -1≤prevV Mem.act L.mem q) (fun q=>L.mem.length - q) 0 rfl ⟨by omega,rfl,Int.le_refl _⟩ (fun q hq=>?_)
      obtain ⟨g1,g2,g4⟩:=hq
      rw [g2]
      rcases Nat.lt_or_ge q L.mem.length with g3|g3
      ·
       obtain ⟨x,hx⟩:=get_of_lt g3
       have hc:=mbE_get hx
       have hbad:=allG_bad (p:=pr) hx
       have hok:=allG_ok (p:=pr) hx
       have hpv:prevV Mem.act L.mem (q+1)=x.act:=by simp only [prevV,hx]
       rw [hpi] at hbad hok
       obtain ⟨v,hv⟩:∃ v,prevV Mem.act L.mem q=v:=⟨_,rfl⟩
       rw [hv] at hbad hok g4 ⊢
       by_cases hin:v < x.act∧x.act < m.acts.length
       ·
        obtain ⟨i0,i1⟩:=hin
        obtain ⟨a,ha⟩:=get_of_lt (xs:=m.acts) (k:=x.act.toNat) (by omega)
        have hca:=acE_get ha
        rw [opAt_get ha] at hbad hok
        by_cases ho1:a.op=L.a
        ·
         refine drvR ?_
         exact ⟨q+1,by rw [hpv];rfl,rfl,⟨by omega,hok ⟨i0,i1,.inl ho1⟩,by omega⟩,by omega⟩
        ·
         by_cases ho2:a.op=L.b
         ·
          repeat' (first
|(with_reducible first|apply EvK.seq|apply EvK.block)
|((with_reducible apply EvK.text);(try case hm=>exact rfl))
|((with_reducible apply EvK.drawn);(case hm=>exact rfl))
|(with_reducible first|apply EvK.skip|apply EvK.ret|apply thenK_n|apply thenK_r|apply blockK_r)
|((with_reducible apply EvK.cond_t);(case hc=>exact rfl))
|((with_reducible apply EvO.spd_t);(case hp=>exact fao))
|(with_reducible apply EvO.nilT)
|((with_reducible apply EvO.gf);(case hW=>exact rfl))
|((with_reducible apply EvO.u0);(case hx=>exact opq))
|fail)
          first
           | exact ⟨q+1,by rw [hpv];rfl,rfl,⟨by omega,hok ⟨i0,i1,.inr ho2⟩,by omega⟩,by omega⟩
           | (exfalso;omega)
         ·
          rw [hbad (fun h=>by rcases h.2.2 with h|h <;> contradiction)]
          exact drv
       ·
        rw [hbad (fun h=>hin ⟨h.1,h.2.1⟩)]
        repeat' (first
|(with_reducible first|apply EvK.seq|apply EvK.block)
|((with_reducible apply EvK.text);(try case hm=>exact rfl))
|((with_reducible apply EvK.drawn);(case hm=>exact rfl))
|(with_reducible first|apply EvK.skip|apply EvK.ret|apply thenK_n|apply thenK_r|apply blockK_r)
|((with_reducible apply EvK.cond_t);(case hc=>exact rfl))
|((with_reducible apply EvO.spd_t);(case hp=>exact fao))
|((with_reducible apply EvO.spd) <;> intro hq)
|((with_reducible apply EvO.spd_yt);(case hp=>exact fao))
|(with_reducible apply EvO.nilT)
|((with_reducible apply EvO.gf);(case hW=>exact rfl))
|((with_reducible apply EvO.gt0);(case hW=>exact rfl);(case hx=>exact opq))
|((with_reducible apply EvO.u0);(case hx=>exact opq))
|fail)
        all_goals first
         | exact ⟨.inr rfl,rfl⟩
         | (exfalso;apply hin;constructor <;> omega)
      ·
       rw [allG_end g3]
       exact drv
     ·
      refine drvR ?_
      refine EvL.ind (fun q:Nat=>[(6,.t (.int .i64 (prevV Mem.act L.mem q))),(7,.t (.int .i64 (q:Int)))]) (fun q=>q≤L.mem.length∧allG pr 0 (L.mem.drop 0)=allG pr q (L.mem.drop q) ∧ -1≤prevV Mem.act L.mem q) (fun q=>L.mem.length - q) 0 rfl ⟨by omega,rfl,Int.le_refl _⟩ (fun q hq=>?_)
      obtain ⟨g1,g2,g4⟩:=hq
      rw [g2]
      rcases Nat.lt_or_ge q L.mem.length with g3|g3
      ·
       obtain ⟨x,hx⟩:=get_of_lt g3
       have hc:=mbE_get hx
       have hbad:=allG_bad (p:=pr) hx
       have hok:=allG_ok (p:=pr) hx
       have hpv:prevV Mem.act L.mem (q+1)=x.act:=by simp only [prevV,hx]
       rw [hpi] at hbad hok
       obtain ⟨v,hv⟩:∃ v,prevV Mem.act L.mem q=v:=⟨_,rfl⟩
       rw [hv] at hbad hok g4 ⊢
       by_cases hin:v < x.act∧x.act < m.acts.length
       ·
        obtain ⟨i0,i1⟩:=hin
        obtain ⟨a,ha⟩:=get_of_lt (xs:=m.acts) (k:=x.act.toNat) (by omega)
        have hca:=acE_get ha
        rw [opAt_get ha] at hbad hok
        by_cases ho1:a.op=L.a
        ·
         refine drvR ?_
         exact ⟨q+1,by rw [hpv];rfl,rfl,⟨by omega,hok ⟨i0,i1,.inl ho1⟩,by omega⟩,by omega⟩
        ·
         by_cases ho2:a.op=L.b
         ·
          refine drvR ?_
          first
           | exact ⟨q+1,by rw [hpv];rfl,rfl,⟨by omega,hok ⟨i0,i1,.inr ho2⟩,by omega⟩,by omega⟩
           | (exfalso;omega)
         ·
          rw [hbad (fun h=>by rcases h.2.2 with h|h <;> contradiction)]
          exact drv
       ·
        rw [hbad (fun h=>hin ⟨h.1,h.2.1⟩)]
        repeat' (first
|(with_reducible first|apply EvK.seq|apply EvK.block)
|((with_reducible apply EvK.text);(try case hm=>exact rfl))
|((with_reducible apply EvK.drawn);(case hm=>exact rfl))
|(with_reducible first|apply EvK.skip|apply EvK.ret|apply thenK_n|apply thenK_r|apply blockK_r)
|((with_reducible apply EvK.cond_t);(case hc=>exact rfl))
|((with_reducible apply EvO.spd_t);(case hp=>exact fao))
|((with_reducible apply EvO.spd) <;> intro hq)
|((with_reducible apply EvO.spd_yt);(case hp=>exact fao))
|(with_reducible apply EvO.nilT)
|((with_reducible apply EvO.gf);(case hW=>exact rfl))
|((with_reducible apply EvO.gt0);(case hW=>exact rfl);(case hx=>exact opq))
|((with_reducible apply EvO.u0);(case hx=>exact opq))
|fail)
        all_goals first
         | exact ⟨.inr rfl,rfl⟩
         | (exfalso;apply hin;constructor <;> omega)
      ·
       rw [allG_end g3]
       exact drv
    ·
     by_cases hp4:L.pa = -1
     ·
      by_cases hab:L.a=L.b
      ·
       have q4:=q3 hab
       exfalso
       omega
      ·
       refine drvR ?_
       refine EvL.ind (fun q:Nat=>[(6,.t (.int .i64 (prevV Mem.act L.mem q))),(7,.t (.int .i64 (q:Int)))]) (fun q=>q≤L.mem.length∧allG pr 0 (L.mem.drop 0)=allG pr q (L.mem.drop q) ∧ -1≤prevV Mem.act L.mem q) (fun q=>L.mem.length - q) 0 rfl ⟨by omega,rfl,Int.le_refl _⟩ (fun q hq=>?_)
       obtain ⟨g1,g2,g4⟩:=hq
       rw [g2]
       rcases Nat.lt_or_ge q L.mem.length with g3|g3
       ·
        obtain ⟨x,hx⟩:=get_of_lt g3
        have hc:=mbE_get hx
        have hbad:=allG_bad (p:=pr) hx
        have hok:=allG_ok (p:=pr) hx
        have hpv:prevV Mem.act L.mem (q+1)=x.act:=by simp only [prevV,hx]
        rw [hpi] at hbad hok
        obtain ⟨v,hv⟩:∃ v,prevV Mem.act L.mem q=v:=⟨_,rfl⟩
        rw [hv] at hbad hok g4 ⊢
        by_cases hin:v < x.act∧x.act < m.acts.length
        ·
         obtain ⟨i0,i1⟩:=hin
         obtain ⟨a,ha⟩:=get_of_lt (xs:=m.acts) (k:=x.act.toNat) (by omega)
         have hca:=acE_get ha
         rw [opAt_get ha] at hbad hok
         by_cases ho1:a.op=L.a
         ·
          refine drvR ?_
          exact ⟨q+1,by rw [hpv];rfl,rfl,⟨by omega,hok ⟨i0,i1,.inl ho1⟩,by omega⟩,by omega⟩
         ·
          by_cases ho2:a.op=L.b
          ·
           refine drvR ?_
           first
            | exact ⟨q+1,by rw [hpv];rfl,rfl,⟨by omega,hok ⟨i0,i1,.inr ho2⟩,by omega⟩,by omega⟩
            | (exfalso;omega)
          ·
           rw [hbad (fun h=>by rcases h.2.2 with h|h <;> contradiction)]
           exact drv
        ·
         rw [hbad (fun h=>hin ⟨h.1,h.2.1⟩)]
         repeat' (first
|(with_reducible first|apply EvK.seq|apply EvK.block)
|((with_reducible apply EvK.text);(try case hm=>exact rfl))
|((with_reducible apply EvK.drawn);(case hm=>exact rfl))
|(with_reducible first|apply EvK.skip|apply EvK.ret|apply thenK_n|apply thenK_r|apply blockK_r)
|((with_reducible apply EvK.cond_t);(case hc=>exact rfl))
|((with_reducible apply EvO.spd_t);(case hp=>exact fao))
|((with_reducible apply EvO.spd) <;> intro hq)
|((with_reducible apply EvO.spd_yt);(case hp=>exact fao))
|(with_reducible apply EvO.nilT)
|((with_reducible apply EvO.gf);(case hW=>exact rfl))
|((with_reducible apply EvO.gt0);(case hW=>exact rfl);(case hx=>exact opq))
|((with_reducible apply EvO.u0);(case hx=>exact opq))
|fail)
         all_goals first
          | exact ⟨.inr rfl,rfl⟩
          | (exfalso;apply hin;constructor <;> omega)
       ·
        rw [allG_end g3]
        exact drv
     ·
      by_cases hab:L.a=L.b
      ·
       have q4:=q3 hab
       refine drvR ?_
       refine EvL.ind (fun q:Nat=>[(6,.t (.int .i64 (prevV Mem.act L.mem q))),(7,.t (.int .i64 (q:Int)))]) (fun q=>q≤L.mem.length∧allG pr 0 (L.mem.drop 0)=allG pr q (L.mem.drop q) ∧ -1≤prevV Mem.act L.mem q) (fun q=>L.mem.length - q) 0 rfl ⟨by omega,rfl,Int.le_refl _⟩ (fun q hq=>?_)
       obtain ⟨g1,g2,g4⟩:=hq
       rw [g2]
       rcases Nat.lt_or_ge q L.mem.length with g3|g3
       ·
        obtain ⟨x,hx⟩:=get_of_lt g3
        have hc:=mbE_get hx
        have hbad:=allG_bad (p:=pr) hx
        have hok:=allG_ok (p:=pr) hx
        have hpv:prevV Mem.act L.mem (q+1)=x.act:=by simp only [prevV,hx]
        rw [hpi] at hbad hok
        obtain ⟨v,hv⟩:∃ v,prevV Mem.act L.mem q=v:=⟨_,rfl⟩
        rw [hv] at hbad hok g4 ⊢
        by_cases hin:v < x.act∧x.act < m.acts.length
        ·
         obtain ⟨i0,i1⟩:=hin
         obtain ⟨a,ha⟩:=get_of_lt (xs:=m.acts) (k:=x.act.toNat) (by omega)
         have hca:=acE_get ha
         rw [opAt_get ha] at hbad hok
         by_cases ho1:a.op=L.a
         ·
          refine drvR ?_
          exact ⟨q+1,by rw [hpv];rfl,rfl,⟨by omega,hok ⟨i0,i1,.inl ho1⟩,by omega⟩,by omega⟩
         ·
          by_cases ho2:a.op=L.b
          ·
           repeat' (first
|(with_reducible first|apply EvK.seq|apply EvK.block)
|((with_reducible apply EvK.text);(try case hm=>exact rfl))
|((with_reducible apply EvK.drawn);(case hm=>exact rfl))
|(with_reducible first|apply EvK.skip|apply EvK.ret|apply thenK_n|apply thenK_r|apply blockK_r)
|((with_reducible apply EvK.cond_t);(case hc=>exact rfl))
|((with_reducible apply EvO.spd_t);(case hp=>exact fao))
|(with_reducible apply EvO.nilT)
|((with_reducible apply EvO.gf);(case hW=>exact rfl))
|((with_reducible apply EvO.u0);(case hx=>exact opq))
|fail)
           first
            | exact ⟨q+1,by rw [hpv];rfl,rfl,⟨by omega,hok ⟨i0,i1,.inr ho2⟩,by omega⟩,by omega⟩
            | (exfalso;omega)
          ·
           rw [hbad (fun h=>by rcases h.2.2 with h|h <;> contradiction)]
           exact drv
        ·
         rw [hbad (fun h=>hin ⟨h.1,h.2.1⟩)]
         repeat' (first
|(with_reducible first|apply EvK.seq|apply EvK.block)
|((with_reducible apply EvK.text);(try case hm=>exact rfl))
|((with_reducible apply EvK.drawn);(case hm=>exact rfl))
|(with_reducible first|apply EvK.skip|apply EvK.ret|apply thenK_n|apply thenK_r|apply blockK_r)
|((with_reducible apply EvK.cond_t);(case hc=>exact rfl))
|((with_reducible apply EvO.spd_t);(case hp=>exact fao))
|((with_reducible apply EvO.spd) <;> intro hq)
|((with_reducible apply EvO.spd_yt);(case hp=>exact fao))
|(with_reducible apply EvO.nilT)
|((with_reducible apply EvO.gf);(case hW=>exact rfl))
|((with_reducible apply EvO.gt0);(case hW=>exact rfl);(case hx=>exact opq))
|((with_reducible apply EvO.u0);(case hx=>exact opq))
|fail)
         all_goals first
          | exact ⟨.inr rfl,rfl⟩
          | (exfalso;apply hin;constructor <;> omega)
       ·
        rw [allG_end g3]
        exact drv
      ·
       refine drvR ?_
       refine EvL.ind (fun q:Nat=>[(6,.t (.int .i64 (prevV Mem.act L.mem q))),(7,.t (.int .i64 (q:Int)))]) (fun q=>q≤L.mem.length∧allG pr 0 (L.mem.drop 0)=allG pr q (L.mem.drop q) ∧ -1≤prevV Mem.act L.mem q) (fun q=>L.mem.length - q) 0 rfl ⟨by omega,rfl,Int.le_refl _⟩ (fun q hq=>?_)
       obtain ⟨g1,g2,g4⟩:=hq
       rw [g2]
       rcases Nat.lt_or_ge q L.mem.length with g3|g3
       ·
        obtain ⟨x,hx⟩:=get_of_lt g3
        have hc:=mbE_get hx
        have hbad:=allG_bad (p:=pr) hx
        have hok:=allG_ok (p:=pr) hx
        have hpv:prevV Mem.act L.mem (q+1)=x.act:=by simp only [prevV,hx]
        rw [hpi] at hbad hok
        obtain ⟨v,hv⟩:∃ v,prevV Mem.act L.mem q=v:=⟨_,rfl⟩
        rw [hv] at hbad hok g4 ⊢
        by_cases hin:v < x.act∧x.act < m.acts.length
        ·
         obtain ⟨i0,i1⟩:=hin
         obtain ⟨a,ha⟩:=get_of_lt (xs:=m.acts) (k:=x.act.toNat) (by omega)
         have hca:=acE_get ha
         rw [opAt_get ha] at hbad hok
         by_cases ho1:a.op=L.a
         ·
          refine drvR ?_
          exact ⟨q+1,by rw [hpv];rfl,rfl,⟨by omega,hok ⟨i0,i1,.inl ho1⟩,by omega⟩,by omega⟩
         ·
          by_cases ho2:a.op=L.b
          ·
           refine drvR ?_
           first
            | exact ⟨q+1,by rw [hpv];rfl,rfl,⟨by omega,hok ⟨i0,i1,.inr ho2⟩,by omega⟩,by omega⟩
            | (exfalso;omega)
          ·
           rw [hbad (fun h=>by rcases h.2.2 with h|h <;> contradiction)]
           exact drv
        ·
         rw [hbad (fun h=>hin ⟨h.1,h.2.1⟩)]
         repeat' (first
|(with_reducible first|apply EvK.seq|apply EvK.block)
|((with_reducible apply EvK.text);(try case hm=>exact rfl))
|((with_reducible apply EvK.drawn);(case hm=>exact rfl))
|(with_reducible first|apply EvK.skip|apply EvK.ret|apply thenK_n|apply thenK_r|apply blockK_r)
|((with_reducible apply EvK.cond_t);(case hc=>exact rfl))
|((with_reducible apply EvO.spd_t);(case hp=>exact fao))
|((with_reducible apply EvO.spd) <;> intro hq)
|((with_reducible apply EvO.spd_yt);(case hp=>exact fao))
|(with_reducible apply EvO.nilT)
|((with_reducible apply EvO.gf);(case hW=>exact rfl))
|((with_reducible apply EvO.gt0);(case hW=>exact rfl);(case hx=>exact opq))
|((with_reducible apply EvO.u0);(case hx=>exact opq))
|fail)
         all_goals first
          | exact ⟨.inr rfl,rfl⟩
          | (exfalso;apply hin;constructor <;> omega)
       ·
        rw [allG_end g3]
        exact drv
   ·
    have hpf:paramsB m L=false:=by rw [← Bool.not_eq_true,hpi2];exact hq
    rw [hpf,Bool.false_and]
    repeat' (first
|(with_reducible apply EvK.seq)
|((with_reducible apply EvK.text);(try case hm=>exact rfl))
|(with_reducible first|apply EvK.skip|apply EvK.ret|apply thenK_n|apply thenK_r)
|((with_reducible apply EvK.cond_t);(case hc=>exact rfl))
|((with_reducible apply EvK.cond_f);(case hc=>exact rfl))
|((with_reducible apply EvO.spd_f);(case hp=>exact fao))
|((with_reducible apply EvO.spd) <;> intro hq)
|((with_reducible apply EvO.spn) <;> intro hq)
|((with_reducible apply EvO.spd_yt);(case hp=>exact fao))
|((with_reducible apply EvO.spd_yf);(case hp=>exact fao))
|((with_reducible apply EvO.spn_yt);(case hp=>exact fao))
|((with_reducible apply EvO.spn_y) <;> intro hq)
|(with_reducible apply EvO.nilT)
|((with_reducible apply EvO.gf);(case hW=>exact rfl))
|((with_reducible apply EvO.gt0);(case hW=>exact rfl);(case hx=>first
|(exact oqF k2)
|exact opq))
|((with_reducible apply EvO.u0);(case hx=>first
|(exact oqF k1)
|exact opq))
|fail)
    all_goals first
     | exact ⟨.inr rfl,rfl⟩
     | (exfalso;apply hp;constructor <;> omega)
     | (exfalso;apply hq;refine ⟨by omega,by omega,fun _=>by omega⟩)
 ·
  have hno:(decide (0≤L.a) && (decide (L.a≤L.b) && decide (L.b < (m.ops.length:Int))))=false:=by
   rw [← Bool.not_eq_true,Bool.and_eq_true,Bool.and_eq_true,decide_eq_true_eq,decide_eq_true_eq,decide_eq_true_eq]
   exact fun h'=>h ⟨⟨h'.1,h'.2.1⟩,h'.2.2⟩
  rw [hno,Bool.false_and]
  repeat' (first
|(with_reducible apply EvK.seq)
|((with_reducible apply EvK.text);(try case hm=>exact rfl))
|(with_reducible first|apply EvK.ret|apply thenK_r)
|((with_reducible apply EvK.cond_t);(case hc=>exact rfl))
|((with_reducible apply EvO.spd) <;> intro hq)
|((with_reducible apply EvO.spd_yt);(case hp=>exact fao))
|((with_reducible apply EvO.spd_y) <;> intro hq)
|(with_reducible apply EvO.nilT)
|((with_reducible apply EvO.gf);(case hW=>exact rfl))
|((with_reducible apply EvO.gt0);(case hW=>exact rfl);(case hx=>exact opq))
|((with_reducible apply EvO.u0);(case hx=>exact opq))
|fail)
  all_goals first
   | exact ⟨.inr rfl,rfl⟩
   | (exfalso;apply h;refine ⟨⟨?_,?_⟩,?_⟩ <;> omega)
end Go.Proofs.YtcpgmmlaimkojaaGreatDoor
