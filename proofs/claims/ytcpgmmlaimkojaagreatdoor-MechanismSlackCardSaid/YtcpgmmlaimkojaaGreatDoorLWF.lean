/- Law 27: slack behind an action. No condition. -/
import Derived.Test.YtcpgmmlaimkojaaGreatDoorLWA
import Derived.Test.YtcpgmmlaimkojaaGreatDoorRPJ
set_option linter.unusedSimpArgs false
set_option linter.unusedVariables false
set_option linter.unusedSectionVars false
namespace Go.Proofs.YtcpgmmlaimkojaaGreatDoor
open Go.RowKit
set_option maxRecDepth 100000
set_option maxHeartbeats 32000000
theorem plsk_c (n:Int):Cl cfg 31 [.t (.int .i64 n)] [] (.t (.bool (!inV n))) []:=by
 unfold inV
 refine Cl.of_body rfl Tryz.func31 rfl rfl rfl ?_
 exact drv
theorem applyN_len {sg:Int}:∀ (l:List Ned) (b:List Int),(applyN sg l b).length=b.length
 | [],b=>rfl
 | x::l,b=>by
  rw [applyN,applyN_len l]
  split
  ·exact List.length_set
  ·rfl
theorem applyN_s {sg:Int} {l:List Ned} {q:Nat} {x:Ned} (h:l[q]?=some x) (b:List Int):applyN sg (l.take (q+1)) b=if x.k=0 then (applyN sg (l.take q) b).set x.i.toNat ((applyN sg (l.take q) b).getD x.i.toNat 0+sg * x.n) else applyN sg (l.take q) b:=by
 rw [List.take_add_one,h,apply_app]
 rfl
theorem need_0 {m:Md} {p:Pln} {k R:Int} (hP:PlanOk m p) (hk:inActs m k=true) {x:Ned} (hx:x∈needsL m p k R) (h0:x.k=0):(0≤x.i∧x.i < p.esc.length)∧0 < x.n∧x.n≤128000000000000:=by
 unfold needsL at hx
 rcases List.mem_append.1 hx with hx|hx
 ·obtain ⟨j,z,hj,hp,rfl⟩:=mem_chgs.1 hx
  have hb:=chgA_b hP.model hk (hP.row (List.mem_of_getElem? hj))
  have hjl:=lt_of_get hj
  refine ⟨⟨?_,?_⟩,hp,?_⟩
  ·show (0:Int)≤((0+j:Nat):Int);omega
  ·show ((0+j:Nat):Int) < p.esc.length;omega
  ·show 1 * chgA m k (rowOf m z)≤_;omega
 ·obtain ⟨j,L,hL,hp,rfl⟩:=mem_shrs.1 hx
  cases h0
theorem give_0 {m:Md} {p:Pln} {k:Int} (hP:PlanOk m p) (hk:inActs m k=true) {x:Ned} (hx:x∈chgsL m k (-1) 0 p.esc):x.k=0∧(0≤x.i∧x.i < p.esc.length)∧0 < x.n∧x.n≤128000000000000:=by
 obtain ⟨j,z,hj,hp,rfl⟩:=mem_chgs.1 hx
 have hb:=chgA_b hP.model hk (hP.row (List.mem_of_getElem? hj))
 have hjl:=lt_of_get hj
 refine ⟨rfl,⟨?_,?_⟩,hp,?_⟩
 ·show (0:Int)≤((0+j:Nat):Int);omega
 ·show ((0+j:Nat):Int) < p.esc.length;omega
 ·show -1 * chgA m k (rowOf m z)≤_;omega
def Wthn (B:Int) (l:List Int):Prop:=∀ v∈l,-B≤v∧v≤B
theorem Wthn.set {B D v:Int} {l:List Int} {i:Nat} (h:Wthn B l) (hD:0≤D) (hv : -(B+D)≤v∧v≤B+D):Wthn (B+D) (l.set i v):=fun x hx=>by
 rcases List.mem_or_eq_of_mem_set hx with hx|rfl
 ·have:=h x hx;omega
 ·exact hv
theorem Wthn.more {B D:Int} {l:List Int} (h:Wthn B l) (hD:0≤D):Wthn (B+D) l:=fun x hx=>by have:=h x hx;omega
theorem slack_wthn {m:Md} {p:Pln} (hP:PlanOk m p) {s:List Int} (hs:∀ x∈s,-1000000≤x∧x≤1000000):Wthn 1000000000000 (slackL m p s):=fun v hv=>by
 unfold slackL at hv
 obtain ⟨x,hx,rfl⟩:=List.mem_map.1 hv
 have hr:=hP.row hx
 have h1:=slackR_bnd (V:=1000000) (by omega) hs (row_terms hr) (rowOf m x).bound
 have h2:=row_bound hr
 have h3:=term_len (row_terms hr)
 have h4:=rngs_few hP.model
 unfold slackR
 omega
theorem inV_any {l:List Int} (h:l.any (fun n=>!inV n)=false):∀ x∈l,-1000000≤x∧x≤1000000:=fun x hx=>by
 have:=List.any_eq_false.1 h x hx
 unfold inV at this
 simpa using this
theorem inV_alls {l:List Int} (h:l.any (fun n=>!inV n)=false):l.all inV=true:=List.all_eq_true.2 fun x hx=>by
 have:=List.any_eq_false.1 h x hx
 simpa using this
theorem lawslack_c {m:Md} {p:Pln} {k R:Int} {s:List Int} (hm:MdL m) (hp:PlL p) (hs:s.length≤17592186044416):Cl cfg 7 [.t (mdA m),.t (plA p),.t (.int .i64 k),.t (.int .i64 R),.t (intsA s)] [] (.t (.bool true)) []:=by
 have kf:=lfew_c hm hp
 have ka:=lawake_c
 have hlA:=acE_len m.acts
 have hls:=intsE_len s
 have hlE:=esE_len p.esc
 cases hF:fewP m p with
 | false=>
  rw [hF] at kf
  unfold plA at kf ⊢
  rw [mdA_eq,plC_eq] at kf ⊢
  refine Cl.of_body rfl Tryz.func7 rfl rfl rfl ?_
  exact drv
 | true=>
  rw [hF] at kf
  have W:=few_w hm hp hF
  have X:=few_x hF
  have B:=few_b hF
  have hfe:p.esc.length≤100000000:=by have:=B.esc;omega
  have kr:=rpv_c W
  have hB1:=B.esc
  have hB2:=B.locks
  cases hv:planB m p with
  | false=>
   rw [hv] at kr
   unfold plA at kf kr ⊢
   rw [mdA_eq,plC_eq] at kf kr ⊢
   refine Cl.of_body rfl Tryz.func7 rfl rfl rfl ?_
   exact drv
  | true=>
   rw [hv] at kr
   have hpl:=plan_iff.1 hv
   have hlay:=model_lay hpl.model
   have kT:=rTotal_c hm hlay
   rw [total_len hlay] at kT
   have h128:=rngs_few hpl.model
   obtain ⟨n,hn⟩:∃ n,(rngs m.sorts m.tables true).length=n:=⟨_,rfl⟩
   rw [hn] at kT h128
   have hG:k < 0∨(0≤k∧(m.acts.length:Int)≤k)∨(0≤k∧k < m.acts.length∧R < 1)∨(0≤k∧k < m.acts.length∧1≤R∧5 < R)∨(0≤k∧k < m.acts.length∧1≤R∧R≤5∧s.length≠n)∨(0≤k∧k < m.acts.length∧1≤R∧R≤5∧s.length=n):=by omega
   rcases hG with hG|⟨g1,g2⟩|⟨g1,g2,g3⟩|⟨g1,g2,g3,g4⟩|⟨g1,g2,g3,g4,g5⟩|⟨g1,g2,g3,g4,g5⟩
   ·
    unfold plA at kf kr ⊢
    rw [mdA_eq,plC_eq] at kf kr ⊢
    refine Cl.of_body rfl Tryz.func7 rfl rfl rfl ?_
    exact drv
   ·
    unfold plA at kf kr ⊢
    rw [mdA_eq,plC_eq] at kf kr ⊢
    refine Cl.of_body rfl Tryz.func7 rfl rfl rfl ?_
    exact drv
   ·
    unfold plA at kf kr ⊢
    rw [mdA_eq,plC_eq] at kf kr ⊢
    refine Cl.of_body rfl Tryz.func7 rfl rfl rfl ?_
    exact drv
   ·
    unfold plA at kf kr ⊢
    rw [mdA_eq,plC_eq] at kf kr ⊢
    refine Cl.of_body rfl Tryz.func7 rfl rfl rfl ?_
    exact drv
   ·
    unfold plA at kf kr ⊢
    rw [mdA_eq] at kT
    rw [mdA_eq,plC_eq] at kf kr ⊢
    refine Cl.of_body rfl Tryz.func7 rfl rfl rfl ?_
    exact drv
   ·
    have hk:inActs m k=true:=inActs_iff.2 ⟨g1,g2⟩
    have kC:=conlsk_c (C:=s) (p:=fun n=>!inV n) (by omega) (fun x _=>plsk_c x)
    cases hin:s.any (fun n=>!inV n) with
    | true=>
     rw [hin] at kC
     unfold plA at kf kr ⊢
     rw [mdA_eq] at kT
     rw [mdA_eq,plC_eq] at kf kr ⊢
     refine Cl.of_body rfl Tryz.func7 rfl rfl rfl ?_
     exact drv
    | false=>
     rw [hin] at kC
     have hsv:=inV_any hin
     obtain ⟨a,ha⟩:=get_of_lt (xs:=m.acts) (k:=k.toNat) (by omega)
     have hac:=acE_get ha
     have had:m.acts.getD k.toNat zActn=a:=by rw [List.getD_eq_getElem?_getD,ha];rfl
     have hdl:=delta_ok hpl.model hk
     have hlw:=hpl.slack (R:=R) hk (s:=s) (by omega)
     rw [had] at hdl hlw
     have hxl:=X a (List.mem_of_getElem? ha)
     have kP:=rPlus_c (s:=s) (x:=a.eff) hdl hxl (by omega) hsv
     have hpn:=plus_len s a.eff.delta
     obtain ⟨t,ht⟩:∃ t,plusL s a.eff.delta=t:=⟨_,rfl⟩
     rw [ht] at kP hpn hlw
     have hlt:=intsE_len t
     have kC2:=conlsk_c (C:=t) (p:=fun n=>!inV n) (by omega) (fun x _=>plsk_c x)
     rw [efC_eq] at kP
     cases hin2:t.any (fun n=>!inV n) with
     | true=>
      rw [hin2] at kC2
      unfold plA at kf kr ⊢
      rw [mdA_eq] at kT
      rw [mdA_eq,plC_eq] at kf kr ⊢
      refine Cl.of_body rfl Tryz.func7 rfl rfl rfl ?_
      exact drv
     | false=>
      rw [hin2] at kC2
      have k1:=pslack_c (s:=s) W (by omega) (by unfold inSlack;rw [hv,inV_alls hin,decide_eq_true (by omega)];rfl) hfe
      have k2:=pslack_c (s:=t) W (by omega) (by unfold inSlack;rw [hv,inV_alls hin2,decide_eq_true (by omega)];rfl) hfe
      have k3:=pneeds_c (k:=k) (R:=R) W (inNeeds_iff.2 ⟨hv,⟨g1,g2⟩,g3,g4⟩) hfe
      have k4:=pgives_c (k:=k) W hv hk hfe
      have hw1:=slack_wthn hpl hsv
      have n1:=needsL_len m p k R
      have n2:=chgsL_le (m:=m) (k:=k) (sg := -1) p.esc 0
      have n3:(slackL m p s).length=p.esc.length:=by unfold slackL;rw [List.length_map]
      have n4:(slackL m p t).length=p.esc.length:=by unfold slackL;rw [List.length_map]
      have hne:=fun (x:Ned) (hx:x∈needsL m p k R) (h0:x.k=0)=>need_0 hpl hk hx h0
      have hgi:=fun (x:Ned) (hx:x∈chgsL m k (-1) 0 p.esc)=>give_0 hpl hk hx
      obtain ⟨S,hS⟩:∃ b,slackL m p s=b:=⟨_,rfl⟩
      obtain ⟨Z,hZ⟩:∃ b,slackL m p t=b:=⟨_,rfl⟩
      obtain ⟨N,hN⟩:∃ b,needsL m p k R=b:=⟨_,rfl⟩
      obtain ⟨G,hGG⟩:∃ b,chgsL m k (-1) 0 p.esc=b:=⟨_,rfl⟩
      obtain ⟨b,hb⟩:∃ b,placedB p k=b:=⟨_,rfl⟩
      rw [hS] at k1 hw1 n3 hlw
      rw [hZ] at k2 n4 hlw
      rw [hN] at k3 n1 hne hlw
      rw [hGG] at k4 n2 hgi hlw
      rw [hb] at k3
      have hlS:=intsE_len S
      have hlZ:=intsE_len Z
      have hlN:=ndE_len N
      have hlG:=ndE_len G
      have k5:=sameint_c Z (by omega)
      unfold plA at kf kr k1 k2 k3 k4 ⊢
      rw [mdA_eq] at kT
      rw [mdA_eq,plC_eq] at kf kr k1 k2 k3 k4 ⊢
      refine Cl.of_body rfl Tryz.func7 rfl rfl rfl ?_
      refine drvR ?_
      refine EvL.indF (fun q:Nat=>[(105,.t (.int .i64 (q:Int)))]) (fun q=>[.box false 30 (([intsA m.sorts,.arr (tbE m.tables),.arr (nmE m.fams),.arr (cnE m.cons),.arr (opE m.ops),.arr (acE m.acts),.arr (hdE m.hides)]:List AV).map .t),.box false 35 (([.arr (esE p.esc),.arr (lkE p.locks),.arr (mbE p.places),intsA p.need]:List AV).map .t),.row false false 1 (intsE (applyN (-1) (N.take q) S)),.row false false 1 (intsE Z),.row false false 4 (ndE N)]) (fun q=>q≤N.length∧Wthn (1000000000000+q * 200000000000000) (applyN (-1) (N.take q) S)) (fun q=>N.length - q) 0 rfl rfl ⟨by omega,fun v hv=>by have:=hw1 v hv;omega⟩ (fun q hq=>?_)
      obtain ⟨h1,h2⟩:=hq
      have hal:=applyN_len (sg := -1) (N.take q) S
      rcases Nat.lt_or_ge q N.length with h3|h3
      ·
       obtain ⟨x,hx⟩:=get_of_lt h3
       have hcx:=ndE_get hx
       have has:=applyN_s (sg := -1) hx S
       obtain ⟨U,hU⟩:∃ U,applyN (-1) (N.take q) S=U:=⟨_,rfl⟩
       rw [hU] at has hal h2 ⊢
       have hlU:=intsE_len U
       by_cases h0:x.k=0
       ·
        obtain ⟨⟨x1,x2⟩,x3,x4⟩:=hne x (List.mem_of_getElem? hx) h0
        rw [if_pos h0] at has
        obtain ⟨v,hv'⟩:=get_of_lt (xs:=U) (k:=x.i.toNat) (by omega)
        have hcv:=intsE_get hv'
        have hvb:=h2 v (List.mem_of_getElem? hv')
        rw [List.getD_eq_getElem?_getD,hv',Option.getD_some] at has
        have hst:(intsE U).set x.i.toNat [.int .i64 (v - x.n)]=intsE (applyN (-1) (N.take (q+1)) S):=by
         rw [has,show v + -1 * x.n=v - x.n by omega]
         unfold intsE
         rw [List.map_set]
        repeat' (first
|(with_reducible first|apply EvK.seq|apply EvK.block)
|((with_reducible apply EvK.text);(try case hm=>exact rfl))
|((with_reducible apply EvK.drawn);(case hm=>exact rfl))
|(with_reducible first|apply EvK.skip|apply thenK_n)
|((with_reducible apply EvK.cond_t);(case hc=>exact rfl))
|((with_reducible apply EvK.cond_f);(case hc=>exact rfl))
|((with_reducible apply EvO.spd_t);(case hp=>exact fao))
|((with_reducible apply EvO.spd_f);(case hp=>exact fao))
|((with_reducible apply EvO.spd_yf);(case hp=>exact fao))
|(with_reducible first|apply EvO.nilT|apply EvO.nilB)
|((with_reducible apply EvO.gt0);(case hW=>exact rfl);(case hx=>exact opq))
|((with_reducible apply EvO.u0);(case hx=>first
|((with_reducible apply OpR.sti);(case hs=>exact fun _=>rfl);(case ha|hy|ht|hone=>exact rfl);(case hn=>kernel_rfl);(case hb=>exact rfl);(case hk=>exact hcv);(case hj=>exact rfl);(case hv=>exact hst);(case hf=>exact leq))
|exact opq))
|fail)
        have hW':Wthn (1000000000000+((q+1:Nat):Int) * 200000000000000) (applyN (-1) (N.take (q+1)) S):=by
         rw [has]
         have:=h2.set (i:=x.i.toNat) (v:=v + -1 * x.n) (D:=200000000000000) (by omega) (by omega)
         intro z hz
         have:=this z hz
         omega
        exact ⟨q+1,rfl,rfl,⟨by omega,hW'⟩,by omega⟩
       ·
        rw [if_neg h0] at has
        have hW':Wthn (1000000000000+((q+1:Nat):Int) * 200000000000000) (applyN (-1) (N.take (q+1)) S):=by
         rw [has]
         intro z hz
         have:=h2 z hz
         omega
        refine drvR ?_
        exact ⟨q+1,rfl,by rw [has];try rfl,⟨by omega,hW'⟩,by omega⟩
      ·
       obtain rfl:q=N.length:=by omega
       rw [List.take_length] at h2 hal ⊢
       obtain ⟨U0,hU0⟩:∃ U,applyN (-1) N S=U:=⟨_,rfl⟩
       rw [hU0] at h2 hal hlw ⊢
       have hlU0:=intsE_len U0
       refine drvR ?_
       refine EvL.indF (fun q:Nat=>[(146,.t (.int .i64 (q:Int)))]) (fun q=>[.box false 30 (([intsA m.sorts,.arr (tbE m.tables),.arr (nmE m.fams),.arr (cnE m.cons),.arr (opE m.ops),.arr (acE m.acts),.arr (hdE m.hides)]:List AV).map .t),.box false 35 (([.arr (esE p.esc),.arr (lkE p.locks),.arr (mbE p.places),intsA p.need]:List AV).map .t),.row false false 1 (intsE (applyN 1 (G.take q) U0)),.row false false 1 (intsE Z),.row false false 4 (ndE N),.row false false 4 (ndE G)]) (fun q=>q≤G.length∧Wthn (1000000000000+((N.length+q:Nat):Int) * 200000000000000) (applyN 1 (G.take q) U0)) (fun q=>G.length - q) 0 rfl rfl ⟨by omega,fun v hv=>by have:=h2 v hv;omega⟩ (fun q hq=>?_)
       obtain ⟨h4,h5⟩:=hq
       have hal2:=applyN_len (sg:=1) (G.take q) U0
       rcases Nat.lt_or_ge q G.length with h6|h6
       ·
        obtain ⟨x,hx⟩:=get_of_lt h6
        have hcx:=ndE_get hx
        have has:=applyN_s (sg:=1) hx U0
        obtain ⟨U,hU⟩:∃ U,applyN 1 (G.take q) U0=U:=⟨_,rfl⟩
        rw [hU] at has hal2 h5 ⊢
        have hlU:=intsE_len U
        obtain ⟨x0,⟨x1,x2⟩,x3,x4⟩:=hgi x (List.mem_of_getElem? hx)
        rw [if_pos x0] at has
        obtain ⟨v,hv'⟩:=get_of_lt (xs:=U) (k:=x.i.toNat) (by omega)
        have hcv:=intsE_get hv'
        have hvb:=h5 v (List.mem_of_getElem? hv')
        rw [List.getD_eq_getElem?_getD,hv',Option.getD_some] at has
        have hst:(intsE U).set x.i.toNat [.int .i64 (v+x.n)]=intsE (applyN 1 (G.take (q+1)) U0):=by
         rw [has,show v+1 * x.n=v+x.n by omega]
         unfold intsE
         rw [List.map_set]
        have hW':Wthn (1000000000000+((N.length+(q+1):Nat):Int) * 200000000000000) (applyN 1 (G.take (q+1)) U0):=by
         rw [has]
         have:=h5.set (i:=x.i.toNat) (v:=v+1 * x.n) (D:=200000000000000) (by omega) (by omega)
         intro z hz
         have:=this z hz
         omega
        repeat' (first
|(with_reducible first|apply EvK.seq|apply EvK.block)
|((with_reducible apply EvK.text);(try case hm=>exact rfl))
|((with_reducible apply EvK.drawn);(case hm=>exact rfl))
|(with_reducible first|apply EvK.skip|apply thenK_n)
|((with_reducible apply EvK.cond_t);(case hc=>exact rfl))
|((with_reducible apply EvK.cond_f);(case hc=>exact rfl))
|((with_reducible apply EvO.spd_t);(case hp=>exact fao))
|((with_reducible apply EvO.spn_f);(case hp=>exact fao))
|((with_reducible apply EvO.spd_yf);(case hp=>exact fao))
|(with_reducible first|apply EvO.nilT|apply EvO.nilB)
|((with_reducible apply EvO.gt0);(case hW=>exact rfl);(case hx=>exact opq))
|((with_reducible apply EvO.u0);(case hx=>first
|((with_reducible apply OpR.sti);(case hs=>exact fun _=>rfl);(case ha|hy|ht|hone=>exact rfl);(case hn=>kernel_rfl);(case hb=>exact rfl);(case hk=>exact hcv);(case hj=>exact rfl);(case hv=>exact hst);(case hf=>exact leq))
|exact opq))
|fail)
        exact ⟨q+1,rfl,rfl,⟨by omega,hW'⟩,by omega⟩
       ·
        rw [List.take_of_length_le h6,hlw]
        exact drv
end Go.Proofs.YtcpgmmlaimkojaaGreatDoor
