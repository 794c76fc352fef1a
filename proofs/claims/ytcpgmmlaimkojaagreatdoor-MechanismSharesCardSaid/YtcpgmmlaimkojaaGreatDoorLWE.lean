/- Law 27: two actions exclude each other exactly if both need a place or together too many shares. No condition. -/
import Derived.Test.YtcpgmmlaimkojaaGreatDoorLWA
set_option linter.unusedSimpArgs false
set_option linter.unusedVariables false
set_option linter.unusedSectionVars false
namespace Go.Proofs.YtcpgmmlaimkojaaGreatDoor
open Go.RowKit
set_option maxRecDepth 100000
set_option maxHeartbeats 32000000
def mxB (R:Int) (x y:Ned):Bool:=decide (x.k=1) && (decide (x.k=y.k∧x.i=y.i∧x.el=y.el) && decide (R < x.n+y.n))
theorem much_mx (R:Int) (a b:List Ned):muchB R a b=a.any fun x=>b.any (mxB R x):=rfl
theorem take_any {α:Type} {l:List α} {q:Nat} {x:α} (p:α→Bool) (h:l[q]?=some x):(l.take (q+1)).any p=((l.take q).any p || p x):=by rw [List.take_add_one,h,List.any_append];simp
theorem right_g:cfg.P.eqGuardType cfg.P.depth 49=false:=by kernel_rfl
theorem right_eq (a b c a' b' c':Int):eqC cfg.P 20 49 [.int .i64 a,.int .i64 b,.int .i64 c] [.int .i64 a',.int .i64 b',.int .i64 c']=some (decide (a=a') && (decide (b=b') && (decide (c=c') && true))):=by kernel_rfl
theorem need_n {m:Md} {p:Pln} {k R:Int} {x:Ned} (hx:x∈needsL m p k R) (hk:x.k=1):x.n=R∨x.n=1:=by
 unfold needsL at hx
 rcases List.mem_append.1 hx with hx|hx
 ·obtain ⟨j,z,_,_,rfl⟩:=mem_chgs.1 hx
  cases hk
 ·obtain ⟨j,L,hL,hp,rfl⟩:=mem_shrs.1 hx
  show (if writeB m L k=true then R else 1)=R∨(if writeB m L k=true then R else 1)=1
  split
  ·exact .inl rfl
  ·exact .inr rfl
theorem lawshares_c {m:Md} {p:Pln} {e f R:Int} (hm:MdL m) (hp:PlL p):Cl cfg 8 [.t (mdA m),.t (plA p),.t (.int .i64 e),.t (.int .i64 f),.t (.int .i64 R)] [] (.t (.bool true)) []:=by
 have kf:=lfew_c hm hp
 have ka:=lawake_c
 have hlA:=acE_len m.acts
 cases hF:fewP m p with
 | false=>
  rw [hF] at kf
  unfold plA at kf ⊢
  rw [mdA_eq,plC_eq] at kf ⊢
  refine Cl.of_body rfl Tryz.func8 rfl rfl rfl ?_
  exact drv
 | true=>
  rw [hF] at kf
  have W:=few_w hm hp hF
  have B:=few_b hF
  have hfe:p.esc.length≤100000000:=by have:=B.esc;omega
  have kr:=rpv_c W
  have hB1:=B.esc
  have hB2:=B.locks
  cases hv:planB m p with
  | false=>
   rw [hv] at kr
   unfold plA at kf kr ⊢
   rw [mdA_eq,plC_eq] at kf kr ⊢
   refine Cl.of_body rfl Tryz.func8 rfl rfl rfl ?_
   exact drv
  | true=>
   rw [hv] at kr
   have hG:e < 0∨(0≤e∧f < 0)∨(0≤e∧0≤f∧(m.acts.length:Int)≤e)∨(0≤e∧0≤f∧e < m.acts.length∧(m.acts.length:Int)≤f)∨(0≤e∧0≤f∧e < m.acts.length∧f < m.acts.length∧R < 2)∨(0≤e∧0≤f∧e < m.acts.length∧f < m.acts.length∧2≤R∧5 < R)∨(0≤e∧0≤f∧e < m.acts.length∧f < m.acts.length∧2≤R∧R≤5):=by omega
   have kN:=fun (k:Int) (h0:0≤k) (h1:k < m.acts.length) (hR:2≤R) (hR5:R≤5)=>pneeds_c (k:=k) (R:=R) W (inNeeds_iff.2 ⟨hv,⟨h0,h1⟩,by omega,hR5⟩) hfe
   have kW:=fun (i:Int)=>pWriter_c (i:=i) (k:=e) W
   have kE:=fun (i:Int)=>pElements_c (i:=i) W
   have kX:=pexcl_c (e:=e) (f:=f) W
   have hpl:=plan_iff.1 hv
   unfold plA at kf kr kN kW kE kX ⊢
   rw [mdA_eq] at kf kr kX ⊢
   rw [plC_eq] at kf kr kX ⊢
   simp only [mdA_eq,plC_eq] at kN kW kE
   rcases hG with hG|hG|hG|hG|hG|hG|hG
   ·
    refine Cl.of_body rfl Tryz.func8 rfl rfl rfl ?_
    exact drv
   ·
    obtain ⟨g1,g2⟩:=hG
    refine Cl.of_body rfl Tryz.func8 rfl rfl rfl ?_
    exact drv
   ·
    obtain ⟨g1,g2,g3⟩:=hG
    refine Cl.of_body rfl Tryz.func8 rfl rfl rfl ?_
    exact drv
   ·
    obtain ⟨g1,g2,g3,g4⟩:=hG
    refine Cl.of_body rfl Tryz.func8 rfl rfl rfl ?_
    exact drv
   ·
    obtain ⟨g1,g2,g3,g4,g5⟩:=hG
    refine Cl.of_body rfl Tryz.func8 rfl rfl rfl ?_
    exact drv
   ·
    obtain ⟨g1,g2,g3,g4,g5,g6⟩:=hG
    refine Cl.of_body rfl Tryz.func8 rfl rfl rfl ?_
    exact drv
   ·
    obtain ⟨g1,g2,g3,g4,g5,g6⟩:=hG
    have k1:=kN e g1 g3 g5 g6
    have k2:=kN f g2 g4 g5 g6
    have hxm:=excl_much (m:=m) (p:=p) (e:=e) (f:=f) g5
    have n1:=needsL_len m p e R
    have n2:=needsL_len m p f R
    have hsh:=fun (x:Ned) (hx:x∈needsL m p e R) (hk:x.k=1)=>hpl.share g5 hx hk
    have hnA:=fun (x:Ned) (hx:x∈needsL m p e R) (hk:x.k=1)=>need_n hx hk
    have hnB:=fun (x:Ned) (hx:x∈needsL m p f R) (hk:x.k=1)=>need_n hx hk
    rw [hv,Bool.true_and,hxm,much_mx] at kX
    obtain ⟨A,hA⟩:∃ b,needsL m p e R=b:=⟨_,rfl⟩
    obtain ⟨C,hC⟩:∃ b,needsL m p f R=b:=⟨_,rfl⟩
    obtain ⟨a,ha⟩:∃ b,placedB p e=b:=⟨_,rfl⟩
    obtain ⟨c,hc⟩:∃ b,placedB p f=b:=⟨_,rfl⟩
    rw [hA] at k1 n1 hsh hnA kX
    rw [hC] at k2 n2 hnB kX
    rw [ha] at k1 kX
    rw [hc] at k2 kX
    have hlA1:=ndE_len A
    have hlC:=ndE_len C
    refine Cl.of_body rfl Tryz.func8 rfl rfl rfl ?_
    refine drvR ?_
    refine EvL.ind (fun q:Nat=>[(15,.t (.bool ((A.take q).any fun x=>C.any (mxB R x)))),(82,.t (.int .i64 (q:Int)))]) (fun q=>q≤A.length) (fun q=>A.length - q) 0 rfl (by omega) (fun q h1=>?_)
    rcases Nat.lt_or_ge q A.length with h3|h3
    ·
     obtain ⟨x,hx⟩:=get_of_lt h3
     have hcx:=ndE_get hx
     have hxA:=List.mem_of_getElem? hx
     have htk:=take_any (fun x=>C.any (mxB R x)) hx
     obtain ⟨u,hu⟩:∃ u,((A.take q).any fun x=>C.any (mxB R x))=u:=⟨_,rfl⟩
     rw [hu] at htk ⊢
     refine drvR ?_
     refine EvL.ind (fun j:Nat=>[(15,.t (.bool ((C.take j).any (mxB R x) || u))),(88,.t (.int .i64 (j:Int)))]) (fun j=>j≤C.length) (fun j=>C.length - j) 0 rfl (by omega) (fun j g1'=>?_)
     rcases Nat.lt_or_ge j C.length with h4|h4
     ·
      obtain ⟨y,hy⟩:=get_of_lt h4
      have hcy:=ndE_get hy
      have hyC:=List.mem_of_getElem? hy
      have htj:=take_any (mxB R x) hy
      obtain ⟨v,hv'⟩:∃ v,((C.take j).any (mxB R x) || u)=v:=⟨_,rfl⟩
      have hnx:((C.take (j+1)).any (mxB R x) || u)=(v || mxB R x y):=by rw [htj,← hv'];cases (C.take j).any (mxB R x) <;> cases u <;> cases mxB R x y <;> rfl
      rw [hv']
      cases v with
      | true=>
       rw [Bool.true_or] at hnx
       refine drvR ?_
       exact ⟨j+1,by rw [hnx];rfl,rfl,by omega,by omega⟩
      | false=>
       rw [Bool.false_or] at hnx
       by_cases hk:x.k=1
       ·
        by_cases hr:x.k=y.k∧x.i=y.i∧x.el=y.el
        ·
         have hte:eqC cfg.P 20 49 [.int .i64 x.k,.int .i64 x.i,.int .i64 x.el] [.int .i64 y.k,.int .i64 y.i,.int .i64 y.el]=some true:=by rw [right_eq,hr.1,hr.2.1,hr.2.2];simp
         have b1:=hnA x hxA hk
         have b2:=hnB y hyC (hr.1 ▸ hk)
         by_cases hn:R < x.n+y.n
         ·
          have hmx:mxB R x y=true:=by unfold mxB;simp [hk,hn];exact ⟨hk ▸ hr.1,hr.2⟩
          rw [hmx] at hnx
          repeat' (first
|(with_reducible first|apply EvK.seq|apply EvK.block)
|((with_reducible apply EvK.text);(try case hm=>exact rfl))
|(with_reducible first|apply EvK.skip|apply thenK_n)
|((with_reducible apply EvK.cond_t);(case hc=>exact rfl))
|((with_reducible apply EvO.spd_t);(case hp=>exact fao))
|((with_reducible apply EvO.spd_yt);(case hp=>exact fao))
|(with_reducible first|apply EvO.nilT|apply EvO.nilB)
|((with_reducible apply EvO.gt0);(case hW=>exact rfl);(case hx=>first
|((with_reducible apply OpR.eqs);(case hx|hy=>exact rfl);(case hg=>exact right_g);(case ht=>exact rfl);(case hr=>exact hte))
|exact (OpR.r (op:=.load 49 _) fun _=>rfl)
|exact opq))
|((with_reducible apply EvO.u0);(case hx=>exact opq))
|fail)
          exact ⟨j+1,by rw [hnx];rfl,rfl,by omega,by omega⟩
         ·
          have hmx:mxB R x y=false:=by unfold mxB;simp [hn]
          rw [hmx] at hnx
          repeat' (first
|(with_reducible first|apply EvK.seq|apply EvK.block)
|((with_reducible apply EvK.text);(try case hm=>exact rfl))
|(with_reducible first|apply EvK.skip|apply thenK_n)
|((with_reducible apply EvK.cond_t);(case hc=>exact rfl))
|((with_reducible apply EvO.spd_t);(case hp=>exact fao))
|((with_reducible apply EvO.spd_yt);(case hp=>exact fao))
|((with_reducible apply EvO.spd_yf);(case hp=>exact fao))
|(with_reducible first|apply EvO.nilT|apply EvO.nilB)
|((with_reducible apply EvO.gt0);(case hW=>exact rfl);(case hx=>first
|((with_reducible apply OpR.eqs);(case hx|hy=>exact rfl);(case hg=>exact right_g);(case ht=>exact rfl);(case hr=>exact hte))
|exact (OpR.r (op:=.load 49 _) fun _=>rfl)
|exact opq))
|((with_reducible apply EvO.u0);(case hx=>exact opq))
|fail)
          exact ⟨j+1,by rw [hnx];rfl,rfl,by omega,by omega⟩
        ·
         have hte:eqC cfg.P 20 49 [.int .i64 x.k,.int .i64 x.i,.int .i64 x.el] [.int .i64 y.k,.int .i64 y.i,.int .i64 y.el]=some false:=by
          rw [right_eq]
          simp
          exact fun q1 q2 q3=>hr ⟨q1,q2,q3⟩
         have hmx:mxB R x y=false:=by unfold mxB;simp [hr]
         rw [hmx] at hnx
         repeat' (first
|(with_reducible first|apply EvK.seq|apply EvK.block)
|((with_reducible apply EvK.text);(try case hm=>exact rfl))
|(with_reducible first|apply EvK.skip|apply thenK_n)
|((with_reducible apply EvK.cond_t);(case hc=>exact rfl))
|((with_reducible apply EvO.spd_t);(case hp=>exact fao))
|((with_reducible apply EvO.spd_yt);(case hp=>exact fao))
|(with_reducible first|apply EvO.nilT|apply EvO.nilB)
|((with_reducible apply EvO.gf);(case hW=>exact rfl))
|((with_reducible apply EvO.gt0);(case hW=>exact rfl);(case hx=>first
|((with_reducible apply OpR.eqs);(case hx|hy=>exact rfl);(case hg=>exact right_g);(case ht=>exact rfl);(case hr=>exact hte))
|exact (OpR.r (op:=.load 49 _) fun _=>rfl)
|exact opq))
|((with_reducible apply EvO.u0);(case hx=>exact opq))
|fail)
         exact ⟨j+1,by rw [hnx];rfl,rfl,by omega,by omega⟩
       ·
        have hmx:mxB R x y=false:=by unfold mxB;simp [hk]
        rw [hmx] at hnx
        refine drvR ?_
        exact ⟨j+1,by rw [hnx];rfl,rfl,by omega,by omega⟩
     ·
      rw [List.take_of_length_le h4]
      have hend:((A.take (q+1)).any fun x=>C.any (mxB R x))=(C.any (mxB R x) || u):=by rw [htk,Bool.or_comm]
      obtain ⟨v,hv'⟩:∃ v,(C.any (mxB R x) || u)=v:=⟨_,rfl⟩
      rw [hv'] at hend ⊢
      by_cases hk:x.k=1
      ·
       obtain ⟨jl,L,hjl,hi,hpt,hw,hel,he0,he1⟩:=hsh x hxA hk
       have hxi0:0≤x.i:=by omega
       have hxi1:x.i < p.locks.length:=by have:=lt_of_get hjl;omega
       have hLL:lckAt p x.i=L:=by
        have:=lck_get hxi0 hxi1
        rw [show x.i.toNat=jl by omega,hjl] at this
        exact (Option.some.inj this).symm
       have kw:=kW x.i
       have ke:=kE x.i
       rw [okP_in hv hxi0 hxi1,hLL,hpt,hw,Bool.true_and] at kw
       have hee:elemsP m p x.i=elemsL m L:=by unfold elemsP;rw [hv,inLocks_iff.2 ⟨hxi0,hxi1⟩,hLL];rfl
       rw [hee] at ke
       obtain ⟨E,hE⟩:∃ E,elemsL m L=E:=⟨_,rfl⟩
       rw [hE] at ke he1
       by_cases hn:x.n=R
       ·
        rw [decide_eq_true hn] at kw
        refine drvR ?_
        exact ⟨q+1,by rw [hend];rfl,rfl,by omega,by omega⟩
       ·
        rw [decide_eq_false hn] at kw
        refine drvR ?_
        exact ⟨q+1,by rw [hend];rfl,rfl,by omega,by omega⟩
      ·
       refine drvR ?_
       exact ⟨q+1,by rw [hend];rfl,rfl,by omega,by omega⟩
    ·
     rw [List.take_of_length_le h3]
     obtain ⟨v,hv'⟩:∃ v,(A.any fun x=>C.any (mxB R x))=v:=⟨_,rfl⟩
     rw [hv'] at kX ⊢
     cases a <;> cases c <;> cases v
     all_goals
      exact drv
end Go.Proofs.YtcpgmmlaimkojaaGreatDoor
