/- Models and plans that are small,as contracts. No condition. -/
import Derived.Test.YtcpgmmlaimkojaaGreatDoorRPA
import Derived.Test.YtcpgmmlaimkojaaGreatDoorLPC
set_option linter.unusedSimpArgs false
set_option linter.unusedVariables false
set_option linter.unusedSectionVars false
namespace Go.Proofs.YtcpgmmlaimkojaaGreatDoor
open Go.RowKit
set_option maxRecDepth 100000
set_option maxHeartbeats 32000000
def few9T (t:Tb):Bool:=decide ((t.name.size:Int)≤40) && decide (t.cols.length≤12)
theorem rfew9_c {S:List Int} {L:List Tb} (hS:S.length≤140737488351232) (hL:L.length≤140737488351232):Cl cfg 104 [.t (intsA S),.t (.arr (tbE L))] [] (.t (.bool (L.all few9T && (decide (S.length≤12) && decide (L.length≤20))))) []:=by
 have hlS:=intsE_len S
 have hlL:=tbE_len L
 have e0:L.all few9T=(L.drop 0).all few9T:=rfl
 rw [e0]
 refine Cl.of_body rfl Tryz.func104 rfl rfl rfl ?_
 refine drvR ?_
 refine EvL.ind (fun q:Nat=>[(5,.t (.int .i64 (q:Int)))]) (fun q=>q≤L.length∧(L.drop 0).all few9T=(L.drop q).all few9T) (fun q=>L.length - q) 0 rfl ⟨by omega,rfl⟩ (fun q hq=>?_)
 obtain ⟨h1,h2⟩:=hq
 rw [h2]
 rcases Nat.lt_or_ge q L.length with h3|h3
 ·
  obtain ⟨t,ht⟩:=get_of_lt h3
  have hc:=tbE_get ht
  have hlc:=intsE_len t.cols
  rw [all_hit few9T ht]
  by_cases hf:(t.name.size:Int)≤40∧t.cols.length≤12
  ·
   have e:few9T t=true:=by unfold few9T;rw [decide_eq_true hf.1,decide_eq_true hf.2];rfl
   obtain ⟨f1,f2⟩:=hf
   rw [e,Bool.true_and]
   exact drv
  ·
   have e:few9T t=false:=by
    rw [← Bool.not_eq_true]
    unfold few9T
    rw [Bool.and_eq_true,decide_eq_true_eq,decide_eq_true_eq]
    exact hf
   rw [e,Bool.false_and,Bool.false_and]
   repeat' (first
|(with_reducible first|apply EvK.seq|apply EvK.block)
|((with_reducible apply EvK.text);(try case hm=>exact rfl))
|(with_reducible first|apply EvK.skip|apply EvK.ret|apply thenK_n|apply thenK_r|apply blockK_r)
|((with_reducible apply EvK.cond_t);(case hc=>exact rfl))
|((with_reducible apply EvO.spd_t);(case hp=>exact fao))
|((with_reducible apply EvO.spd) <;> intro hq)
|((with_reducible apply EvO.spd_yt);(case hp=>exact fao))
|(with_reducible apply EvO.nilT)
|((with_reducible apply EvO.gf);(case hW=>exact rfl))
|((with_reducible apply EvO.gt0);(case hW=>exact rfl);(case hx=>exact opq))
|((with_reducible apply EvO.u0);(case hx=>exact opq))
|fail)
   all_goals first
    | exact ⟨.inr rfl,rfl⟩
    | (exfalso;apply hf;constructor <;> omega)
 ·
  rw [alle _ h3,Bool.true_and]
  by_cases h12:S.length≤12
  ·
   rw [decide_eq_true h12,Bool.true_and]
   by_cases h20:L.length≤20
   ·
    rw [decide_eq_true h20]
    exact drv
   ·
    rw [decide_eq_false h20]
    exact drv
  ·
   rw [decide_eq_false h12,Bool.false_and]
   exact drv
def bndF (s:ByteArray):Bool:=decide ((s.size:Int)≤40)
def bndC (c:Cn):Bool:=decide (c.row.terms.length≤20)
def bndO (o:Opn):Bool:=decide ((o.name.size:Int)≤40) && decide (o.sorts.length≤6)
def bndR (r:Rw):Bool:=decide (r.terms.length≤20)
def bndA (a:Actn):Bool:=(decide (a.args.length≤6) && (decide (a.eff.delta.length≤20) && (decide (a.eff.hold.length≤10) && decide (a.eff.ups.length≤40)))) && a.eff.hold.all bndR
def bndN (m:Md):Prop:=m.sorts.length≤8∧m.tables.length≤6∧m.fams.length≤20∧m.cons.length≤60∧m.ops.length≤8∧m.acts.length≤30∧m.hides.length≤12
instance (m:Md):Decidable (bndN m):=by unfold bndN;infer_instance
def bndM (m:Md):Bool:=(decide (bndN m) && (m.tables.all few9T && (decide (m.sorts.length≤12) && decide (m.tables.length≤20)))) && (m.fams.all bndF && (m.cons.all bndC && (m.ops.all bndO && m.acts.all bndA)))
theorem rbnd_c {m:Md} (hm:MdL m):Cl cfg 81 [.t (mdA m)] [] (.t (.bool (bndM m))) []:=by
 have hlS:=intsE_len m.sorts
 have hlL:=tbE_len m.tables
 have hlF:=nmE_len m.fams
 have hlC:=cnE_len m.cons
 have hlO:=opE_len m.ops
 have hlA:=acE_len m.acts
 have hlH:=hdE_len m.hides
 have a1:=hm.sorts
 have a2:=hm.tables
 have a3:=hm.fams
 have a4:=hm.cons
 have a5:=hm.ops
 have a6:=hm.acts
 have a7:=hm.hides
 have k9:=rfew9_c (S:=m.sorts) (L:=m.tables) (by omega) (by omega)
 obtain ⟨b9,hb9⟩:∃ b,(m.tables.all few9T && (decide (m.sorts.length≤12) && decide (m.tables.length≤20)))=b:=⟨_,rfl⟩
 have e0:bndM m=((decide (bndN m) && b9) && ((m.fams.drop 0).all bndF && ((m.cons.drop 0).all bndC && ((m.ops.drop 0).all bndO && (m.acts.drop 0).all bndA)))):=by rw [← hb9];rfl
 rw [hb9] at k9
 rw [e0,mdA_eq]
 refine Cl.of_body rfl Tryz.func81 rfl rfl rfl ?_
 by_cases hN:bndN m
 ·
  rw [decide_eq_true hN,Bool.true_and]
  obtain ⟨n1,n2,n3,n4,n5,n6,n7⟩:=hN
  cases b9 with
  | false=>
   rw [Bool.false_and]
   exact drv
  | true=>
   rw [Bool.true_and]
   refine drvR ?_
   refine EvL.ind (fun q:Nat=>[(3,.t (.int .i64 (q:Int)))]) (fun q=>q≤m.fams.length∧(m.fams.drop 0).all bndF=(m.fams.drop q).all bndF) (fun q=>m.fams.length - q) 0 rfl ⟨by omega,rfl⟩ (fun q hq=>?_)
   obtain ⟨h1,h2⟩:=hq
   rw [h2]
   rcases Nat.lt_or_ge q m.fams.length with h3|h3
   ·
    obtain ⟨s,hs⟩:=get_of_lt h3
    have hc:=nmE_get hs
    rw [all_hit bndF hs]
    by_cases hf:(s.size:Int)≤40
    ·
     have e:bndF s=true:=decide_eq_true hf
     rw [e,Bool.true_and]
     exact drv
    ·
     have e:bndF s=false:=decide_eq_false hf
     rw [e,Bool.false_and,Bool.false_and]
     exact drv
   ·
    rw [alle _ h3,Bool.true_and]
    refine drvR ?_
    refine EvL.ind (fun q:Nat=>[(4,.t (.int .i64 (q:Int)))]) (fun q=>q≤m.cons.length∧(m.cons.drop 0).all bndC=(m.cons.drop q).all bndC) (fun q=>m.cons.length - q) 0 rfl ⟨by omega,rfl⟩ (fun q hq=>?_)
    obtain ⟨h1,h2⟩:=hq
    rw [h2]
    rcases Nat.lt_or_ge q m.cons.length with h4|h4
    ·
     obtain ⟨c,hs⟩:=get_of_lt h4
     have hc:=cnE_get hs
     have hlt:=tmE_len c.row.terms
     have hct:=hm.terms c (List.mem_of_getElem? hs)
     rw [all_hit bndC hs]
     by_cases hf:c.row.terms.length≤20
     ·
      have e:bndC c=true:=decide_eq_true hf
      rw [e,Bool.true_and]
      exact drv
     ·
      have e:bndC c=false:=decide_eq_false hf
      rw [e,Bool.false_and,Bool.false_and]
      exact drv
    ·
     rw [alle _ h4,Bool.true_and]
     refine drvR ?_
     refine EvL.ind (fun q:Nat=>[(5,.t (.int .i64 (q:Int)))]) (fun q=>q≤m.ops.length∧(m.ops.drop 0).all bndO=(m.ops.drop q).all bndO) (fun q=>m.ops.length - q) 0 rfl ⟨by omega,rfl⟩ (fun q hq=>?_)
     obtain ⟨h1,h2⟩:=hq
     rw [h2]
     rcases Nat.lt_or_ge q m.ops.length with h5|h5
     ·
      obtain ⟨o,hs⟩:=get_of_lt h5
      have hc:=opE_get hs
      have hlt:=intsE_len o.sorts
      have hct:=hm.osorts o (List.mem_of_getElem? hs)
      rw [all_hit bndO hs]
      by_cases hf:(o.name.size:Int)≤40∧o.sorts.length≤6
      ·
       have e:bndO o=true:=by unfold bndO;rw [decide_eq_true hf.1,decide_eq_true hf.2];rfl
       obtain ⟨f1,f2⟩:=hf
       rw [e,Bool.true_and]
       exact drv
      ·
       have e:bndO o=false:=by
        rw [← Bool.not_eq_true]
        unfold bndO
        rw [Bool.and_eq_true,decide_eq_true_eq,decide_eq_true_eq]
        exact hf
       rw [e,Bool.false_and,Bool.false_and]
       repeat' (first
|(with_reducible first|apply EvK.seq|apply EvK.block)
|((with_reducible apply EvK.text);(try case hm=>exact rfl))
|(with_reducible first|apply EvK.skip|apply EvK.ret|apply thenK_n|apply thenK_r|apply blockK_r)
|((with_reducible apply EvK.cond_t);(case hc=>exact rfl))
|((with_reducible apply EvO.spd_t);(case hp=>exact fao))
|((with_reducible apply EvO.spd) <;> intro hq)
|((with_reducible apply EvO.spd_yt);(case hp=>exact fao))
|(with_reducible apply EvO.nilT)
|((with_reducible apply EvO.gf);(case hW=>exact rfl))
|((with_reducible apply EvO.gt0);(case hW=>exact rfl);(case hx=>exact opq))
|((with_reducible apply EvO.u0);(case hx=>exact opq))
|fail)
       all_goals first
        | exact ⟨.inr rfl,rfl⟩
        | (exfalso;apply hf;constructor <;> omega)
     ·
      rw [alle _ h5,Bool.true_and]
      refine drvR ?_
      refine EvL.ind (fun q:Nat=>[(6,.t (.int .i64 (q:Int)))]) (fun q=>q≤m.acts.length∧(m.acts.drop 0).all bndA=(m.acts.drop q).all bndA) (fun q=>m.acts.length - q) 0 rfl ⟨by omega,rfl⟩ (fun q hq=>?_)
      obtain ⟨h1,h2⟩:=hq
      rw [h2]
      rcases Nat.lt_or_ge q m.acts.length with h6|h6
      ·
       obtain ⟨a,hs⟩:=get_of_lt h6
       have hc:=acE_get hs
       have hmem:=List.mem_of_getElem? hs
       have t1:=intsE_len a.args
       have t2:=chE_len a.eff.delta
       have t3:=rwE_len a.eff.hold
       have t4:=udE_len a.eff.ups
       have t5:=hm.args a hmem
       have t6:=hm.delta a hmem
       have t7:=hm.hold a hmem
       have t8:=hm.ups a hmem
       rw [all_hit bndA hs]
       by_cases hf:a.args.length≤6∧a.eff.delta.length≤20∧a.eff.hold.length≤10∧a.eff.ups.length≤40
       ·
        have e:bndA a=(a.eff.hold.drop 0).all bndR:=by unfold bndA;rw [decide_eq_true hf.1,decide_eq_true hf.2.1,decide_eq_true hf.2.2.1,decide_eq_true hf.2.2.2];rfl
        obtain ⟨f1,f2,f3,f4⟩:=hf
        rw [e]
        obtain ⟨Z,hZ⟩:∃ Z,(m.acts.drop (q+1)).all bndA=Z:=⟨_,rfl⟩
        rw [hZ]
        refine drvR ?_
        refine EvL.ind (fun k:Nat=>[(8,.t (.int .i64 (k:Int)))]) (fun k=>k≤a.eff.hold.length∧(a.eff.hold.drop 0).all bndR=(a.eff.hold.drop k).all bndR) (fun k=>a.eff.hold.length - k) 0 rfl ⟨by omega,rfl⟩ (fun k hk=>?_)
        obtain ⟨g1,g2⟩:=hk
        rcases Nat.lt_or_ge k a.eff.hold.length with g3|g3
        ·
         obtain ⟨r,hr⟩:=get_of_lt g3
         have hcr:=rwE_get hr
         have hrt:=tmE_len r.terms
         have hrl:=hm.hterms a hmem r (List.mem_of_getElem? hr)
         have hht:=all_hit bndR hr
         by_cases hf2:r.terms.length≤20
         ·
          have e2:bndR r=true:=decide_eq_true hf2
          rw [e2,Bool.true_and] at hht
          refine drvR ?_
          exact ⟨k+1,rfl,rfl,⟨by omega,by rw [g2,hht]⟩,by omega⟩
         ·
          have e2:bndR r=false:=decide_eq_false hf2
          rw [e2,Bool.false_and] at hht
          rw [g2,hht,Bool.false_and]
          exact drv
        ·
         rw [alle _ g3] at g2
         refine drvR ?_
         exact ⟨q+1,rfl,rfl,⟨by omega,by rw [g2,Bool.true_and,hZ]⟩,by omega⟩
       ·
        have e:bndA a=false:=by
         rw [← Bool.not_eq_true]
         unfold bndA
         simp only [Bool.and_eq_true,decide_eq_true_eq]
         exact fun h=>hf h.1
        rw [e,Bool.false_and]
        repeat' (first
|(with_reducible first|apply EvK.seq|apply EvK.block)
|((with_reducible apply EvK.text);(try case hm=>exact rfl))
|(with_reducible first|apply EvK.skip|apply EvK.ret|apply thenK_n|apply thenK_r|apply blockK_r)
|((with_reducible apply EvK.cond_t);(case hc=>exact rfl))
|((with_reducible apply EvO.spd_t);(case hp=>exact fao))
|((with_reducible apply EvO.spd) <;> intro hq)
|((with_reducible apply EvO.spd_yt);(case hp=>exact fao))
|((with_reducible apply EvO.spd_y) <;> intro hq)
|(with_reducible apply EvO.nilT)
|((with_reducible apply EvO.gf);(case hW=>exact rfl))
|((with_reducible apply EvO.gt0);(case hW=>exact rfl);(case hx=>exact opq))
|((with_reducible apply EvO.u0);(case hx=>exact opq))
|fail)
        all_goals first
         | exact ⟨.inr rfl,rfl⟩
         | (exfalso;apply hf;refine ⟨?_,?_,?_,?_⟩ <;> omega)
      ·
       rw [alle _ h6]
       exact drv
 ·
  rw [decide_eq_false hN,Bool.false_and,Bool.false_and]
  repeat' (first
|(with_reducible apply EvK.seq)
|((with_reducible apply EvK.text);(try case hm=>exact rfl))
|(with_reducible first|apply EvK.ret|apply thenK_r)
|((with_reducible apply EvK.cond_t);(case hc=>exact rfl))
|((with_reducible apply EvO.spd) <;> intro hq)
|((with_reducible apply EvO.spd_y) <;> intro hq)
|(with_reducible apply EvO.nilT)
|((with_reducible apply EvO.gf);(case hW=>exact rfl))
|((with_reducible apply EvO.gt0);(case hW=>exact rfl);(case hx=>first
|(exact oqF k9)
|exact opq))
|((with_reducible apply EvO.u0);(case hx=>exact opq))
|fail)
  all_goals first
   | exact ⟨.inr rfl,rfl⟩
   | (exfalso;apply hN;refine ⟨?_,?_,?_,?_,?_,?_,?_⟩ <;> omega)
end Go.Proofs.YtcpgmmlaimkojaaGreatDoor
namespace Go.Proofs.YtcpgmmlaimkojaaGreatDoor
open Go.RowKit
set_option maxRecDepth 100000
set_option maxHeartbeats 32000000
theorem act_op {m:Md} (h:modelB m=true) {a:Actn} {i:Nat} (ha:m.acts[i]?=some a):0≤a.op∧a.op < m.ops.length:=by
 have h1:=acts_ok h ha
 unfold actOk at h1
 simp only [Bool.and_eq_true,decide_eq_true_eq] at h1
 exact h1.1.1.1
theorem ord_get {m:Md} {o:Int} {x:Opn} (h0:0≤o) (h1:o < m.ops.length) (hx:m.ops[o.toNat]?=some x):ordB m o=x.ord:=by
 unfold ordB
 rw [opn_get hx,decide_eq_true h0,decide_eq_true h1]
 rfl
theorem zipI_get {α:Type} {l:List α} {k:Nat} {a:α} (h:l[k]?=some a):l.zipIdx[k]?=some (a,k):=by
 rw [List.getElem?_zipIdx,h]
 simp
theorem rpv_c {m:Md} {p:Pln} (h:PW m p):Cl cfg 13 [.t (mdA m),.t (plA p)] [] (.t (.bool (planB m p))) []:=by
 rw [← planR_eq]
 have kv:=rmvalid_c h.md h.ef h.op
 have hlE:=esE_len p.esc
 have hlK:=lkE_len p.locks
 have hlP:=mbE_len p.places
 have hlN:=intsE_len p.need
 have hlC:=cnE_len m.cons
 have hlA:=acE_len m.acts
 have hlO:=opE_len m.ops
 have hmc:=h.md.cons
 have hma:=h.md.acts
 have hmo:=h.md.ops
 have h1e:=h.pl.esc
 have h1k:=h.pl.locks
 have h1p:=h.pl.places
 have h1n:=h.pl.need
 have kl:=fun (L:Lck) (hL:L∈p.locks)=>rlock_c (L:=L) h.md (by have:=h.pl.mem L hL;omega)
 have kp:=fun k=>rplaced_c (p:=p) (k:=k) (by omega)
 obtain ⟨pE,hpE⟩:∃ f:Nat→Esc→Bool,(fun (i:Nat) (x:Esc)=>decide (prevV Esc.con p.esc i < x.con) && (decide (x.con < m.cons.length) && decide ((m.cons.getD x.con.toNat zCn).kind=0)))=f:=⟨_,rfl⟩
 have pEi:∀ q x,pE q x=true↔prevV Esc.con p.esc q < x.con∧x.con < m.cons.length∧(m.cons.getD x.con.toNat zCn).kind=0:=fun q x=>by
  rw [← hpE];simp only [Bool.and_eq_true,decide_eq_true_eq]
 obtain ⟨pK,hpK⟩:∃ f:Nat→Lck→Bool,(fun (i:Nat) (L:Lck)=>lockB m L && (decide (i=0) || match p.locks[i - 1]? with|some y=>lexL y L|none=>false))=f:=⟨_,rfl⟩
 have pK0:∀ L,pK 0 L=lockB m L:=fun L=>by rw [← hpK];simp
 have pKs:∀ q L y,p.locks[q]?=some y→pK (q+1) L=(lockB m L && lexL y L):=fun q L y hy=>by
  rw [← hpK]
  dsimp only
  rw [Nat.add_sub_cancel,hy]
  rfl
 obtain ⟨pM,hpM⟩:∃ f:Nat→Mem→Bool,(fun (i:Nat) (x:Mem)=>decide (prevV Mem.act p.places i < x.act) && (decide (x.act < m.acts.length) && ordB m (opAt m x.act)))=f:=⟨_,rfl⟩
 have pMi:∀ q x,pM q x=true↔prevV Mem.act p.places q < x.act∧x.act < m.acts.length∧ordB m (opAt m x.act)=true:=fun q x=>by
  rw [← hpM];simp only [Bool.and_eq_true,decide_eq_true_eq]
 obtain ⟨pN,hpN⟩:∃ f:Nat→Int→Bool,(fun (i:Nat) (o:Int)=>decide (prevV id p.need i < o) && ((decide (o < m.ops.length) && (opnAt m o).ord) && needO m p o))=f:=⟨_,rfl⟩
 have pNi:∀ q o,pN q o=true↔prevV id p.need q < o∧(o < m.ops.length∧(opnAt m o).ord=true)∧needO m p o=true:=fun q o=>by
  rw [← hpN];simp only [Bool.and_eq_true,decide_eq_true_eq]
 have e0:planR m p=((modelB m && decide (p.locks.length≤64)) && (allG pE 0 (p.esc.drop 0) && (allG pK 0 (p.locks.drop 0) && (allG pM 0 (p.places.drop 0) && allG pN 0 (p.need.drop 0))))):=by
  rw [← hpE,← hpK,← hpM,← hpN]
  rfl
 rw [e0]
 unfold plA at kp ⊢
 rw [mdA_eq] at kv kl ⊢
 rw [plC_eq] at kp ⊢
 cases hmv:modelB m with
 | false=>
  rw [hmv] at kv
  rw [Bool.false_and,Bool.false_and]
  refine Cl.of_body rfl Tryz.func13 rfl rfl rfl ?_
  exact drv
 | true=>
  rw [hmv] at kv
  refine Cl.of_body rfl Tryz.func13 rfl rfl rfl ?_
  by_cases h64:p.locks.length≤64
  ·
   rw [decide_eq_true h64,Bool.true_and,Bool.true_and]
   refine drvR ?_
   refine EvL.ind (fun q:Nat=>[(5,.t (.int .i64 (prevV Esc.con p.esc q))),(6,.t (.int .i64 (q:Int)))]) (fun q=>q≤p.esc.length∧allG pE 0 (p.esc.drop 0)=allG pE q (p.esc.drop q) ∧ -1≤prevV Esc.con p.esc q) (fun q=>p.esc.length - q) 0 rfl ⟨by omega,rfl,Int.le_refl _⟩ (fun q hq=>?_)
   obtain ⟨h1,h2,h4⟩:=hq
   rw [h2]
   rcases Nat.lt_or_ge q p.esc.length with h3|h3
   ·
    obtain ⟨x,hx⟩:=get_of_lt h3
    have hc:=esE_get hx
    have hbad:=allG_bad (p:=pE) hx
    have hok:=allG_ok (p:=pE) hx
    have hpv:prevV Esc.con p.esc (q+1)=x.con:=by simp only [prevV,hx]
    rw [pEi] at hbad hok
    obtain ⟨v,hv⟩:∃ v,prevV Esc.con p.esc q=v:=⟨_,rfl⟩
    rw [hv] at hbad hok h4 ⊢
    by_cases hin:v < x.con∧x.con < m.cons.length
    ·
     obtain ⟨i0,i1⟩:=hin
     obtain ⟨c,hcn⟩:=get_of_lt (xs:=m.cons) (k:=x.con.toNat) (by omega)
     have hcc:=cnE_get hcn
     rw [List.getD_eq_getElem?_getD,hcn,Option.getD_some] at hbad hok
     by_cases hk:c.kind=0
     ·
      refine drvR ?_
      exact ⟨q+1,by rw [hpv];rfl,rfl,⟨by omega,hok ⟨i0,i1,hk⟩,by omega⟩,by omega⟩
     ·
      rw [hbad (fun h=>hk h.2.2)]
      exact drv
    ·
     rw [hbad (fun h=>hin ⟨h.1,h.2.1⟩)]
     repeat' (first
|(with_reducible first|apply EvK.seq|apply EvK.block)
|((with_reducible apply EvK.text);(try case hm=>exact rfl))
|(with_reducible first|apply EvK.skip|apply EvK.ret|apply thenK_n|apply thenK_r|apply blockK_r)
|((with_reducible apply EvK.cond_t);(case hc=>exact rfl))
|((with_reducible apply EvO.spd_t);(case hp=>exact fao))
|((with_reducible apply EvO.spd) <;> intro hq)
|((with_reducible apply EvO.spd_yt);(case hp=>exact fao))
|(with_reducible apply EvO.nilT)
|((with_reducible apply EvO.gf);(case hW=>exact rfl))
|((with_reducible apply EvO.gt0);(case hW=>exact rfl);(case hx=>exact opq))
|((with_reducible apply EvO.u0);(case hx=>exact opq))
|fail)
     all_goals first
      | exact ⟨.inr rfl,rfl⟩
      | (exfalso;apply hin;constructor <;> omega)
   ·
    rw [allG_end h3,Bool.true_and]
    refine drvR ?_
    refine EvL.ind (fun q:Nat=>[(8,.t (.int .i64 (q:Int)))]) (fun q=>q≤p.locks.length∧allG pK 0 (p.locks.drop 0)=allG pK q (p.locks.drop q)) (fun q=>p.locks.length - q) 0 rfl ⟨by omega,rfl⟩ (fun q hq=>?_)
    obtain ⟨g1,g2⟩:=hq
    rw [g2]
    rcases Nat.lt_or_ge q p.locks.length with g3|g3
    ·
     obtain ⟨L,hL⟩:=get_of_lt g3
     have hc:=lkE_get hL
     have kL:=kl L (List.mem_of_getElem? hL)
     rw [lkC_eq] at kL
     have hbad:=allG_bad (p:=pK) hL
     have hok:=allG_ok (p:=pK) hL
     obtain ⟨b,hb⟩:∃ b,lockB m L=b:=⟨_,rfl⟩
     rw [hb] at kL
     cases q with
     | zero=>
      rw [pK0,hb] at hbad hok
      cases b with
      | false=>
       rw [hbad (by decide)]
       exact drv
      | true=>
       refine drvR ?_
       exact ⟨0+1,rfl,rfl,⟨by omega,hok rfl⟩,by omega⟩
     | succ k=>
      obtain ⟨y,hy⟩:=get_of_lt (xs:=p.locks) (k:=k) (by omega)
      have hcy:=lkE_get hy
      have hcy':(lkE p.locks)[((k+1:Nat) - 1:Int).toNat]?=some [.int .i64 y.a,.int .i64 y.b,.int .i64 y.pa,.int .i64 y.pb,.arr (mbE y.mem)]:=by rw [show ((k+1:Nat) - 1:Int).toNat=k by omega];exact hcy
      rw [pKs k L y hy,hb] at hbad hok
      cases b with
      | false=>
       rw [hbad (by simp)]
       exact drv
      | true=>
       rw [Bool.true_and] at hbad hok
       have hlx:lexL y L=true↔y.a < L.a∨(y.a=L.a∧y.b < L.b):=by
        unfold lexL
        simp only [Bool.or_eq_true,Bool.and_eq_true,decide_eq_true_eq]
       rw [hlx] at hbad hok
       by_cases hl:y.a < L.a∨(y.a=L.a∧y.b < L.b)
       ·
        rcases hl with hl|⟨hl1,hl2⟩
        ·
         refine drvR ?_
         exact ⟨k+1+1,rfl,rfl,⟨by omega,hok (.inl hl)⟩,by omega⟩
        ·
         refine drvR ?_
         exact ⟨k+1+1,rfl,rfl,⟨by omega,hok (.inr ⟨hl1,hl2⟩)⟩,by omega⟩
       ·
        rw [hbad hl]
        by_cases hl1:L.a < y.a
        ·
         exact drv
        ·
         have hl2:y.a=L.a:=by omega
         have hl3:¬ y.b < L.b:=fun h=>hl (.inr ⟨hl2,h⟩)
         exact drv
    ·
     rw [allG_end g3,Bool.true_and]
     refine drvR ?_
     refine EvL.ind (fun q:Nat=>[(5,.t (.int .i64 (prevV Mem.act p.places q))),(9,.t (.int .i64 (q:Int)))]) (fun q=>q≤p.places.length∧allG pM 0 (p.places.drop 0)=allG pM q (p.places.drop q) ∧ -1≤prevV Mem.act p.places q) (fun q=>p.places.length - q) 0 rfl ⟨by omega,rfl,Int.le_refl _⟩ (fun q hq=>?_)
     obtain ⟨i1,i2,i4⟩:=hq
     rw [i2]
     rcases Nat.lt_or_ge q p.places.length with i3|i3
     ·
      obtain ⟨x,hx⟩:=get_of_lt i3
      have hc:=mbE_get hx
      have hbad:=allG_bad (p:=pM) hx
      have hok:=allG_ok (p:=pM) hx
      have hpv:prevV Mem.act p.places (q+1)=x.act:=by simp only [prevV,hx]
      rw [pMi] at hbad hok
      obtain ⟨v,hv⟩:∃ v,prevV Mem.act p.places q=v:=⟨_,rfl⟩
      rw [hv] at hbad hok i4 ⊢
      by_cases hin:v < x.act∧x.act < m.acts.length
      ·
       obtain ⟨j0,j1⟩:=hin
       obtain ⟨a,ha⟩:=get_of_lt (xs:=m.acts) (k:=x.act.toNat) (by omega)
       have hca:=acE_get ha
       obtain ⟨o0,o1⟩:=act_op hmv ha
       obtain ⟨o,ho⟩:=get_of_lt (xs:=m.ops) (k:=a.op.toNat) (by omega)
       have hco:=opE_get ho
       rw [opAt_get ha,ord_get o0 o1 ho] at hbad hok
       obtain ⟨ob,hob⟩:∃ b,o.ord=b:=⟨_,rfl⟩
       rw [hob] at hco hbad hok
       cases ob with
       | true=>
        refine drvR ?_
        exact ⟨q+1,by rw [hpv];rfl,rfl,⟨by omega,hok ⟨j0,j1,rfl⟩,by omega⟩,by omega⟩
       | false=>
        rw [hbad (fun h=>by cases h.2.2)]
        exact drv
      ·
       rw [hbad (fun h=>hin ⟨h.1,h.2.1⟩)]
       repeat' (first
|(with_reducible first|apply EvK.seq|apply EvK.block)
|((with_reducible apply EvK.text);(try case hm=>exact rfl))
|((with_reducible apply EvK.drawn);(case hm=>exact rfl))
|(with_reducible first|apply EvK.skip|apply EvK.ret|apply thenK_n|apply thenK_r|apply blockK_r)
|((with_reducible apply EvK.cond_t);(case hc=>exact rfl))
|((with_reducible apply EvO.spd_t);(case hp=>exact fao))
|((with_reducible apply EvO.spd) <;> intro hq)
|((with_reducible apply EvO.spd_yt);(case hp=>exact fao))
|(with_reducible apply EvO.nilT)
|((with_reducible apply EvO.gf);(case hW=>exact rfl))
|((with_reducible apply EvO.gt0);(case hW=>exact rfl);(case hx=>exact opq))
|((with_reducible apply EvO.u0);(case hx=>exact opq))
|fail)
       all_goals first
        | exact ⟨.inr rfl,rfl⟩
        | (exfalso;apply hin;constructor <;> omega)
     ·
      rw [allG_end i3,Bool.true_and]
      refine drvR ?_
      refine EvL.ind (fun q:Nat=>[(5,.t (.int .i64 (prevV id p.need q))),(11,.t (.int .i64 (q:Int)))]) (fun q=>q≤p.need.length∧allG pN 0 (p.need.drop 0)=allG pN q (p.need.drop q) ∧ -1≤prevV id p.need q) (fun q=>p.need.length - q) 0 rfl ⟨by omega,rfl,Int.le_refl _⟩ (fun q hq=>?_)
      obtain ⟨j1,j2,j4⟩:=hq
      rw [j2]
      rcases Nat.lt_or_ge q p.need.length with j3|j3
      ·
       obtain ⟨o,hx⟩:=get_of_lt j3
       have hc:=intsE_get hx
       have hbad:=allG_bad (p:=pN) hx
       have hok:=allG_ok (p:=pN) hx
       have hpv:prevV id p.need (q+1)=o:=by simp only [prevV,hx,id]
       rw [pNi] at hbad hok
       obtain ⟨v,hv⟩:∃ v,prevV id p.need q=v:=⟨_,rfl⟩
       rw [hv] at hbad hok j4 ⊢
       by_cases hin:v < o∧o < m.ops.length
       ·
        obtain ⟨k0,k1⟩:=hin
        obtain ⟨x,ho⟩:=get_of_lt (xs:=m.ops) (k:=o.toNat) (by omega)
        have hco:=opE_get ho
        rw [opn_get ho] at hbad hok
        obtain ⟨ob,hob⟩:∃ b,x.ord=b:=⟨_,rfl⟩
        rw [hob] at hco hbad hok
        cases ob with
        | false=>
         rw [hbad (fun h=>by cases h.2.1.2)]
         exact drv
        | true=>
         obtain ⟨f,hf⟩:∃ f:Actn×Nat→Bool,(fun a=>decide (a.1.op=o) && placedB p (a.2:Int))=f:=⟨_,rfl⟩
         have hno:needO m p o=!((m.acts.zipIdx.drop 0).any f):=by rw [← hf];rfl
         have hzl:m.acts.zipIdx.length=m.acts.length:=List.length_zipIdx
         rw [hno,Bool.not_eq_true'] at hbad hok
         refine drvR ?_
         refine EvL.ind (fun k:Nat=>[(13,.t (.int .i64 (k:Int)))]) (fun k=>k≤m.acts.length∧(m.acts.zipIdx.drop 0).any f=(m.acts.zipIdx.drop k).any f) (fun k=>m.acts.length - k) 0 rfl ⟨by omega,rfl⟩ (fun k hk=>?_)
         obtain ⟨l1,l2⟩:=hk
         rcases Nat.lt_or_ge k m.acts.length with l3|l3
         ·
          obtain ⟨a,ha⟩:=get_of_lt l3
          have hca:=acE_get ha
          have kpk:=kp (k:Int)
          have hht:=any_hit f (zipI_get ha)
          have hfa:f (a,k)=(decide (a.op=o) && placedB p (k:Int)):=by rw [← hf]
          obtain ⟨pb,hpb⟩:∃ b,placedB p (k:Int)=b:=⟨_,rfl⟩
          rw [hpb] at kpk hfa
          rw [hfa] at hht
          by_cases hao:a.op=o
          ·
           rw [decide_eq_true hao,Bool.true_and] at hht
           cases pb with
           | true=>
            rw [Bool.true_or] at hht
            rw [hbad (fun h=>by rw [l2,hht] at h;cases h.2.2)]
            exact drv
           | false=>
            rw [Bool.false_or] at hht
            refine drvR ?_
            exact ⟨k+1,rfl,rfl,⟨by omega,by rw [l2,hht]⟩,by omega⟩
          ·
           rw [decide_eq_false hao,Bool.false_and,Bool.false_or] at hht
           refine drvR ?_
           exact ⟨k+1,rfl,rfl,⟨by omega,by rw [l2,hht]⟩,by omega⟩
         ·
          rw [any_end f (show m.acts.zipIdx.length≤k by omega)] at l2
          refine drvR ?_
          exact ⟨q+1,by rw [hpv];rfl,rfl,⟨by omega,hok ⟨k0,⟨k1,rfl⟩,l2⟩,by omega⟩,by omega⟩
       ·
        rw [hbad (fun h=>hin ⟨h.1,h.2.1.1⟩)]
        repeat' (first
|(with_reducible first|apply EvK.seq|apply EvK.block)
|((with_reducible apply EvK.text);(try case hm=>exact rfl))
|(with_reducible first|apply EvK.skip|apply EvK.ret|apply thenK_n|apply thenK_r|apply blockK_r)
|((with_reducible apply EvK.cond_t);(case hc=>exact rfl))
|((with_reducible apply EvO.spd_t);(case hp=>exact fao))
|((with_reducible apply EvO.spd) <;> intro hq)
|((with_reducible apply EvO.spd_yt);(case hp=>exact fao))
|(with_reducible apply EvO.nilT)
|((with_reducible apply EvO.gf);(case hW=>exact rfl))
|((with_reducible apply EvO.gt0);(case hW=>exact rfl);(case hx=>exact opq))
|((with_reducible apply EvO.u0);(case hx=>exact opq))
|fail)
        all_goals first
         | exact ⟨.inr rfl,rfl⟩
         | (exfalso;apply hin;constructor <;> omega)
      ·
       rw [allG_end j3]
       exact drv
  ·
   rw [decide_eq_false h64]
   exact drv
end Go.Proofs.YtcpgmmlaimkojaaGreatDoor
