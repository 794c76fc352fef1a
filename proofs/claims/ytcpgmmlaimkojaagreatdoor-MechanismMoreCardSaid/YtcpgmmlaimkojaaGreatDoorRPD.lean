/- Models and plans that are small (2);what the reference's plans ask of actions,as contracts. No condition. -/
import Derived.Test.YtcpgmmlaimkojaaGreatDoorTRB
import Derived.Test.YtcpgmmlaimkojaaGreatDoorTLQ
set_option linter.unusedSimpArgs false
set_option linter.unusedVariables false
set_option linter.unusedSectionVars false
namespace Go.Proofs.YtcpgmmlaimkojaaGreatDoor
open Go.RowKit
set_option maxRecDepth 100000
set_option maxHeartbeats 32000000
def few4 (a:Actn):Bool:=decide (a.eff.hold.length≤4)
def prdG:Int→List (Int×Int)→Bool
 | _,[]=>true
 | n,r::l=>if 4096 < n * (r.2 - r.1+1) then false else prdG (n * (r.2 - r.1+1)) l
def fewM (m:Md):Bool:=((bndM m && decide (m.acts.length≤12)) && decide (m.cons.length≤40)) && (m.acts.all few4 && (decide ((rngs m.sorts m.tables true).length≤12) && prdG 1 (rngs m.sorts m.tables true)))
theorem rng_b {m:Md}:∀ r∈rngs m.sorts m.tables true,-9999≤r.1∧r.1≤r.2∧r.2≤9999:=by
 intro r hr
 unfold rngs at hr
 split at hr
 ·rename_i hv
  obtain ⟨t,ht,hx⟩:=List.mem_flatMap.1 hr
  obtain ⟨k,hk⟩:=List.mem_iff_getElem?.1 ht
  have h1:=lay_tab hv hk
  rw [tabOk_iff] at h1
  unfold rngsT at hx
  split at hx
  ·obtain rfl:=List.eq_of_mem_replicate hx
   have:=h1.2.2.2.2.1
   dsimp only
   omega
  ·cases hx
 ·cases hr
theorem rfew_c {m:Md} (hm:MdL m):Cl cfg 41 [.t (mdA m)] [] (.t (.bool (fewM m))) []:=by
 have kb:=rbnd_c hm
 have ks:=rmstr_c hm
 have hlA:=acE_len m.acts
 have hlC:=cnE_len m.cons
 have hma:=hm.acts
 have hmc:=hm.cons
 have hrb:=rng_b (m:=m)
 have hlR:=rgE_len (rngs m.sorts m.tables true)
 obtain ⟨R,hR⟩:∃ R,rngs m.sorts m.tables true=R:=⟨_,rfl⟩
 obtain ⟨b,hb⟩:∃ b,bndM m=b:=⟨_,rfl⟩
 have e0:fewM m=(((b && decide (m.acts.length≤12)) && decide (m.cons.length≤40)) && ((m.acts.drop 0).all few4 && (decide (R.length≤12) && prdG 1 R))):=by rw [← hb,← hR];rfl
 rw [hb] at kb
 rw [hR] at ks hrb hlR
 rw [e0]
 rw [mdA_eq] at kb ks ⊢
 refine Cl.of_body rfl Tryz.func41 rfl rfl rfl ?_
 cases b with
 | false=>
  rw [Bool.false_and,Bool.false_and,Bool.false_and]
  exact drv
 | true=>
  rw [Bool.true_and]
  by_cases h0:m.acts.length≤12∧m.cons.length≤40
  ·
   obtain ⟨h01,h02⟩:=h0
   rw [decide_eq_true h01,decide_eq_true h02,Bool.true_and,Bool.true_and]
   refine drvR ?_
   refine EvL.ind (fun q:Nat=>[(3,.t (.int .i64 (q:Int)))]) (fun q=>q≤m.acts.length∧(m.acts.drop 0).all few4=(m.acts.drop q).all few4) (fun q=>m.acts.length - q) 0 rfl ⟨by omega,rfl⟩ (fun q hq=>?_)
   obtain ⟨h1,h2⟩:=hq
   rw [h2]
   rcases Nat.lt_or_ge q m.acts.length with h3|h3
   ·
    obtain ⟨a,ha⟩:=get_of_lt h3
    have hc:=acE_get ha
    have hlh:=rwE_len a.eff.hold
    have hmh:=hm.hold a (List.mem_of_getElem? ha)
    rw [all_hit few4 ha]
    by_cases hf:a.eff.hold.length≤4
    ·
     have e:few4 a=true:=decide_eq_true hf
     rw [e,Bool.true_and]
     exact drv
    ·
     have e:few4 a=false:=decide_eq_false hf
     rw [e,Bool.false_and,Bool.false_and]
     exact drv
   ·
    rw [alle _ h3,Bool.true_and]
    by_cases h12:R.length≤12
    ·
     rw [decide_eq_true h12,Bool.true_and]
     obtain ⟨PR,hPR⟩:∃ b,prdG 1 R=b:=⟨_,rfl⟩
     rw [hPR]
     refine drvR ?_
     refine EvL.ind (fun x:Nat×Int=>[(5,.t (.int .i64 x.2)),(6,.t (.int .i64 (x.1:Int)))]) (fun x=>x.1≤R.length∧(1≤x.2∧x.2≤4096)∧prdG x.2 (R.drop x.1)=PR) (fun x=>R.length - x.1) (0,1) rfl ⟨by dsimp only;omega,by dsimp only;omega,hPR⟩ (fun x hx=>?_)
     obtain ⟨q,n⟩:=x
     dsimp only at hx ⊢
     obtain ⟨g1,⟨g2,g3⟩,g4⟩:=hx
     rcases Nat.lt_or_ge q R.length with g5|g5
     ·
      obtain ⟨r,hr⟩:=get_of_lt g5
      have hc:=rgE_get hr
      obtain ⟨b1,b2,b3⟩:=hrb r (List.mem_of_getElem? hr)
      rw [drop_get hr] at g4
      unfold prdG at g4
      have hmb:=mul_bnd (a:=n) (b:=r.2 - r.1+1) (A:=4096) (B:=20000) (by omega) (by omega)
      have hpos:1≤n * (r.2 - r.1+1):=by
       have:=Int.mul_pos (a:=n) (b:=r.2 - r.1+1) (by omega) (by omega)
       omega
      obtain ⟨w,hw⟩:∃ w,n * (r.2 - r.1+1)=w:=⟨_,rfl⟩
      rw [hw] at hmb hpos g4
      have hw2:n * (r.2 - r.1+1)=w:=hw
      by_cases hlt:4096 < w
      ·
       rw [if_pos hlt] at g4
       rw [← g4]
       exact drv
      ·
       rw [if_neg hlt] at g4
       refine drvR ?_
       exact ⟨(q+1,w),by rw [← hw2];rfl,rfl,⟨by dsimp only;omega,by dsimp only;omega,g4⟩,by dsimp only;omega⟩
     ·
      rw [drop_end g5] at g4
      unfold prdG at g4
      rw [← g4]
      exact drv
    ·
     rw [decide_eq_false h12,Bool.false_and]
     exact drv
  ·
   have hno:(decide (m.acts.length≤12) && decide (m.cons.length≤40))=false:=by
    rw [← Bool.not_eq_true,Bool.and_eq_true,decide_eq_true_eq,decide_eq_true_eq];exact h0
   rw [hno,Bool.false_and]
   repeat' (first
|(with_reducible apply EvK.seq)
|((with_reducible apply EvK.text);(try case hm=>exact rfl))
|(with_reducible first|apply EvK.ret|apply thenK_r)
|((with_reducible apply EvK.cond_t);(case hc=>exact rfl))
|((with_reducible apply EvO.spd_yt);(case hp=>exact fao))
|((with_reducible apply EvO.spd_y) <;> intro hq)
|(with_reducible apply EvO.nilT)
|((with_reducible apply EvO.gf);(case hW=>exact rfl))
|((with_reducible apply EvO.gt0);(case hW=>exact rfl);(case hx=>exact opq))
|((with_reducible apply EvO.u0);(case hx=>first
|(exact oqF kb)
|exact opq))
|fail)
   all_goals first
    | exact ⟨.inr rfl,rfl⟩
    | (exfalso;apply h0;constructor <;> omega)
theorem pfew1_c {L:Lck} (hL:L.mem.length≤140737488351232):Cl cfg 43 [.t (.agg (lkC L))] [] (.t (.bool (!decide (L.mem.length≤60)))) []:=by
 have hlM:=mbE_len L.mem
 rw [lkC_eq]
 refine Cl.of_body rfl Tryz.func43 rfl rfl rfl ?_
 by_cases h:L.mem.length≤60
 ·
  rw [decide_eq_true h]
  exact drv
 ·
  rw [decide_eq_false h]
  exact drv
def fewP (m:Md) (p:Pln):Bool:=fewM m && (decide (p.esc.length≤60) && (decide (p.locks.length≤70) && (decide (p.places.length≤60) && (decide (p.need.length≤60) && p.locks.all fun L=>decide (L.mem.length≤60)))))
structure FewB (m:Md) (p:Pln):Prop where
 esc:p.esc.length≤60
 locks:p.locks.length≤70
 places:p.places.length≤60
 need:p.need.length≤60
 mem:∀ L∈p.locks,L.mem.length≤60
 ops:m.ops.length≤8
 acts:m.acts.length≤12
theorem few_b {m:Md} {p:Pln} (h:fewP m p=true):FewB m p:=by
 unfold fewP fewM bndM at h
 simp only [Bool.and_eq_true,decide_eq_true_eq,List.all_eq_true] at h
 obtain ⟨h1,h2,h3,h4,h5,h6⟩:=h
 have hb:=h1.1.1.1.1.1
 unfold bndN at hb
 exact ⟨h2,h3,h4,h5,h6,hb.2.2.2.2.1,h1.1.1.2⟩
theorem lfew_c {m:Md} {p:Pln} (hm:MdL m) (hp:PlL p):Cl cfg 11 [.t (mdA m),.t (plA p)] [] (.t (.bool (fewP m p))) []:=by
 have kf:=rfew_c hm
 have kc:=confew1_c (C:=p.locks) (p:=fun L=>!decide (L.mem.length≤60)) (by have:=hp.locks;omega) (fun L hL=>pfew1_c (by have:=hp.mem L hL;omega))
 have hlE:=esE_len p.esc
 have hlK:=lkE_len p.locks
 have hlP:=mbE_len p.places
 have hlN:=intsE_len p.need
 have h1e:=hp.esc
 have h1k:=hp.locks
 have h1p:=hp.places
 have h1n:=hp.need
 obtain ⟨b,hb⟩:∃ b,fewM m=b:=⟨_,rfl⟩
 obtain ⟨c,hcc⟩:∃ b,(p.locks.any fun L=>!decide (L.mem.length≤60))=b:=⟨_,rfl⟩
 have e0:fewP m p=(b && (decide (p.esc.length≤60) && (decide (p.locks.length≤70) && (decide (p.places.length≤60) && (decide (p.need.length≤60) && !c))))):=by
  unfold fewP
  rw [hb,any_not (fun L:Lck=>decide (L.mem.length≤60)) p.locks,hcc]
 rw [hb] at kf
 rw [hcc] at kc
 rw [e0]
 unfold plA
 rw [mdA_eq] at kf ⊢
 rw [plC_eq]
 refine Cl.of_body rfl Tryz.func11 rfl rfl rfl ?_
 cases b with
 | false=>
  exact drv
 | true=>
  rw [Bool.true_and]
  by_cases h0:p.esc.length≤60
  ·
   rw [decide_eq_true h0,Bool.true_and]
   by_cases h1:p.locks.length≤70
   ·
    rw [decide_eq_true h1,Bool.true_and]
    by_cases h2:p.places.length≤60
    ·
     rw [decide_eq_true h2,Bool.true_and]
     by_cases h3:p.need.length≤60
     ·
      rw [decide_eq_true h3,Bool.true_and]
      exact drv
     ·
      rw [decide_eq_false h3,Bool.false_and]
      exact drv
    ·
     rw [decide_eq_false h2,Bool.false_and]
     exact drv
   ·
    rw [decide_eq_false h1,Bool.false_and]
    exact drv
  ·
   rw [decide_eq_false h0,Bool.false_and]
   exact drv
end Go.Proofs.YtcpgmmlaimkojaaGreatDoor
