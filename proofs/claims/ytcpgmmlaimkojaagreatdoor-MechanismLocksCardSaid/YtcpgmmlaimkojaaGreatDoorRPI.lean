/- What the reference's plans ask of actions,as contracts. No condition. -/
import Derived.Test.YtcpgmmlaimkojaaGreatDoorRPE
set_option linter.unusedSimpArgs false
set_option linter.unusedVariables false
set_option linter.unusedSectionVars false
namespace Go.Proofs.YtcpgmmlaimkojaaGreatDoor
open Go.RowKit
set_option maxRecDepth 100000
set_option maxHeartbeats 32000000
theorem rright_c {m:Md} {p:Pln} {i k:Int} (h:PW m p):Cl cfg 62 [.t (mdA m),.t (plA p),.t (.int .i64 i),.t (.int .i64 k)] [] (.t (.bool ((planB m p && inLocks p i) && inActs m k))) []:=by
 have kv:=rpv_c h
 have hlK:=lkE_len p.locks
 have h1k:=h.pl.locks
 have hlA:=acE_len m.acts
 have hma:=h.md.acts
 have hin:=inLocks_iff (p:=p) (i:=i)
 have hia:=inActs_iff (m:=m) (k:=k)
 obtain ⟨b,hb⟩:∃ b,planB m p=b:=⟨_,rfl⟩
 obtain ⟨c,hc⟩:∃ b,inLocks p i=b:=⟨_,rfl⟩
 obtain ⟨d,hd⟩:∃ b,inActs m k=b:=⟨_,rfl⟩
 rw [hb] at kv ⊢
 rw [hc] at hin ⊢
 rw [hd] at hia ⊢
 unfold plA at kv ⊢
 rw [mdA_eq,plC_eq] at kv ⊢
 refine Cl.of_body rfl Tryz.func62 rfl rfl rfl ?_
 cases b with
 | false=>
  exact drv
 | true=>
  cases c with
  | true=>
   obtain ⟨c0,c1⟩:=hin.1 rfl
   cases d with
   | true=>
    obtain ⟨d0,d1⟩:=hia.1 rfl
    exact drv
   | false=>
    have hn:¬ (0≤k∧k < m.acts.length):=fun h=>by have:=hia.2 h;cases this
    repeat' (first
|(with_reducible apply EvK.seq)
|((with_reducible apply EvK.text);(try case hm=>exact rfl))
|(with_reducible apply EvK.ret)
|((with_reducible apply EvO.spd_yt);(case hp=>exact fao))
|((with_reducible apply EvO.spd_yf);(case hp=>exact fao))
|((with_reducible apply EvO.spd_y) <;> intro hq)
|(with_reducible apply EvO.nilT)
|((with_reducible apply EvO.gf);(case hW=>exact rfl))
|((with_reducible apply EvO.gt0);(case hW=>exact rfl);(case hx=>exact opq))
|((with_reducible apply EvO.u0);(case hx=>first
|(exact oqF kv)
|exact opq))
|fail)
    all_goals first
     | exact ⟨.inr rfl,rfl⟩
     | (exfalso;apply hn;constructor <;> omega)
  | false=>
   have hn:¬ (0≤i∧i < p.locks.length):=fun h=>by have:=hin.2 h;cases this
   repeat' (first
|(with_reducible apply EvK.seq)
|((with_reducible apply EvK.text);(try case hm=>exact rfl))
|(with_reducible apply EvK.ret)
|((with_reducible apply EvO.spd_yf);(case hp=>exact fao))
|((with_reducible apply EvO.spd_y) <;> intro hq)
|(with_reducible apply EvO.nilT)
|((with_reducible apply EvO.gf);(case hW=>exact rfl))
|((with_reducible apply EvO.gt0);(case hW=>exact rfl);(case hx=>exact opq))
|((with_reducible apply EvO.u0);(case hx=>first
|(exact oqF kv)
|exact opq))
|fail)
   all_goals first
    | exact ⟨.inr rfl,rfl⟩
    | (exfalso;apply hn;constructor <;> omega)
theorem okP_right {m:Md} {p:Pln} {i k:Int}:okP m p i k=(((planB m p && inLocks p i) && inActs m k) && partB (lckAt p i) k):=by
 unfold okP
 cases hb:planB m p && inLocks p i with
 | false=>rfl
 | true=>
  rw [Bool.true_and,Bool.true_and]
  rw [Bool.and_eq_true,inLocks_iff] at hb
  cases hp:partB (lckAt p i) k with
  | false=>rw [Bool.and_false]
  | true=>rw [((lck_ok hb.1 hb.2.1 hb.2.2).part hp).1];rfl
theorem rWriter_c {m:Md} {p:Pln} {i k:Int} (h:PW m p):Cl cfg 15 [.t (mdA m),.t (plA p),.t (.int .i64 i),.t (.int .i64 k)] [] (.tup [.t (.bool (okP m p i k && writeB m (lckAt p i) k)),.t (.bool (okP m p i k))]) []:=by
 have kr:=rright_c (i:=i) (k:=k) h
 rw [okP_right]
 cases hr:(planB m p && inLocks p i) && inActs m k with
 | false=>
  rw [hr] at kr
  unfold plA at kr ⊢
  rw [mdA_eq,plC_eq] at kr ⊢
  refine Cl.of_body rfl Tryz.func15 rfl rfl rfl ?_
  exact drv
 | true=>
  rw [hr] at kr
  rw [Bool.and_eq_true,Bool.and_eq_true,inLocks_iff] at hr
  obtain ⟨⟨hv,h0,h1⟩,hk⟩:=hr
  have hg:=lck_get h0 h1
  obtain ⟨L,hLe⟩:∃ L,lckAt p i=L:=⟨_,rfl⟩
  rw [hLe] at hg ⊢
  have kp:=rpart_c (k:=k) h.pl h0 hg
  have kw:=rwrites_c h.md h.pl h0 hg hk
  obtain ⟨b,hb⟩:∃ b,partB L k=b:=⟨_,rfl⟩
  obtain ⟨w,hw⟩:∃ b,writeB m L k=b:=⟨_,rfl⟩
  rw [hb] at kp ⊢
  rw [hw] at kw ⊢
  unfold plA at kr kp kw ⊢
  rw [mdA_eq] at kr kw ⊢
  rw [plC_eq] at kr kp kw ⊢
  refine Cl.of_body rfl Tryz.func15 rfl rfl rfl ?_
  cases b with
  | false=>
   exact drv
  | true=>
   exact drv
theorem rElement_c {m:Md} {p:Pln} {i k:Int} (h:PW m p):Cl cfg 17 [.t (mdA m),.t (plA p),.t (.int .i64 i),.t (.int .i64 k)] [] (.tup [.t (.int .i64 (if okP m p i k=true then elemL m (lckAt p i) k else 0)),.t (.bool (okP m p i k))]) []:=by
 have kr:=rright_c (i:=i) (k:=k) h
 rw [okP_right]
 cases hr:(planB m p && inLocks p i) && inActs m k with
 | false=>
  rw [hr] at kr
  unfold plA at kr ⊢
  rw [mdA_eq,plC_eq] at kr ⊢
  refine Cl.of_body rfl Tryz.func17 rfl rfl rfl ?_
  exact drv
 | true=>
  rw [hr] at kr
  rw [Bool.and_eq_true,Bool.and_eq_true,inLocks_iff] at hr
  obtain ⟨⟨hv,h0,h1⟩,hk⟩:=hr
  have hg:=lck_get h0 h1
  have hL:=lck_ok hv h0 h1
  obtain ⟨L,hLe⟩:∃ L,lckAt p i=L:=⟨_,rfl⟩
  rw [hLe] at hg hL ⊢
  have kp:=rpart_c (k:=k) h.pl h0 hg
  have kw:=rof_c (k:=k) h.md h.pl (plan_iff.1 hv).model h0 hg hL
  obtain ⟨b,hb⟩:∃ b,partB L k=b:=⟨_,rfl⟩
  obtain ⟨w,hw⟩:∃ b,elemL m L k=b:=⟨_,rfl⟩
  rw [hb] at kp kw ⊢
  rw [hw] at kw ⊢
  unfold plA at kr kp kw ⊢
  rw [mdA_eq] at kr kw ⊢
  rw [plC_eq] at kr kp kw ⊢
  refine Cl.of_body rfl Tryz.func17 rfl rfl rfl ?_
  cases b with
  | false=>
   exact drv
  | true=>
   have kw:=kw rfl
   exact drv
theorem rElements_c {m:Md} {p:Pln} {i:Int} (h:PW m p):Cl cfg 19 [.t (mdA m),.t (plA p),.t (.int .i64 i)] [] (.t (.int .i64 (elemsP m p i))) []:=by
 have kv:=rpv_c h
 have hlK:=lkE_len p.locks
 have h1k:=h.pl.locks
 have hlS:=intsE_len m.sorts
 have h1s:=h.md.sorts
 unfold elemsP
 by_cases hn:planB m p=true∧0≤i∧i < p.locks.length
 ·
  obtain ⟨hv,h0,h1⟩:=hn
  have hmv:=(plan_iff.1 hv).model
  rw [if_pos (by rw [hv,inLocks_iff.2 ⟨h0,h1⟩];rfl)]
  have hg:=lck_get h0 h1
  have hL:=lck_ok hv h0 h1
  obtain ⟨L,hLe⟩:∃ L,lckAt p i=L:=⟨_,rfl⟩
  rw [hLe] at hg hL ⊢
  have hc:=lkE_get hg
  rw [hv] at kv
  unfold elemsL
  have ks:=rparam_c (o:=L.a) (k:=L.pa) h.md hL.a0 (by have:=hL.ab;have:=hL.b;omega)
  rcases hL.par_cases with ⟨p1,p2⟩|⟨⟨p1,p1'⟩,_,_,p4,p5⟩
  ·
   rw [if_pos (by omega)]
   unfold plA at kv ⊢
   rw [mdA_eq,plC_eq] at kv ⊢
   refine Cl.of_body rfl Tryz.func19 rfl rfl rfl ?_
   exact drv
  ·
   rw [if_neg (by omega)]
   obtain ⟨o,ho⟩:=get_of_lt (xs:=m.ops) (k:=L.a.toNat) (by have:=hL.a0;have:=hL.ab;have:=hL.b;omega)
   rw [opn_get ho] at p1' p4 p5
   obtain ⟨s,hs⟩:=get_of_lt (xs:=o.sorts) (k:=L.pa.toNat) (by omega)
   have hso:=op_at (ops_ok hmv o (List.mem_of_getElem? ho)) hs
   rw [List.getD_eq_getElem?_getD,hs,Option.getD_some] at p4 p5
   rw [p5] at ks ⊢
   obtain ⟨n,hn⟩:=get_of_lt (xs:=m.sorts) (k:=s.toNat) (by omega)
   have hnc:=intsE_get hn
   rw [List.getD_eq_getElem?_getD,hn,Option.getD_some]
   unfold plA at kv ⊢
   rw [mdA_eq] at ks kv ⊢
   rw [plC_eq] at kv ⊢
   refine Cl.of_body rfl Tryz.func19 rfl rfl rfl ?_
   exact drv
 ·
  have hf:(planB m p && inLocks p i)=false:=by
   rw [← Bool.not_eq_true,Bool.and_eq_true,inLocks_iff]
   exact hn
  rw [hf,if_neg (by decide)]
  obtain ⟨b,hb⟩:∃ b,planB m p=b:=⟨_,rfl⟩
  rw [hb] at kv hn
  unfold plA at kv ⊢
  rw [mdA_eq,plC_eq] at kv ⊢
  refine Cl.of_body rfl Tryz.func19 rfl rfl rfl ?_
  cases b with
  | false=>
   exact drv
  | true=>
   repeat' (first
|(with_reducible apply EvK.seq)
|((with_reducible apply EvK.text);(try case hm=>exact rfl))
|(with_reducible first|apply EvK.skip|apply EvK.ret|apply thenK_n|apply thenK_r)
|((with_reducible apply EvK.cond_t);(case hc=>exact rfl))
|((with_reducible apply EvK.cond_f);(case hc=>exact rfl))
|((with_reducible apply EvO.spd_y) <;> intro hq)
|(with_reducible apply EvO.nilT)
|((with_reducible apply EvO.gf);(case hW=>exact rfl))
|((with_reducible apply EvO.gt0);(case hW=>exact rfl);(case hx=>exact opq))
|((with_reducible apply EvO.u0);(case hx=>first
|(exact oqF kv)
|exact opq))
|fail)
   all_goals first
    | exact ⟨.inr rfl,rfl⟩
    | (exfalso;apply hn;refine ⟨rfl,?_,?_⟩ <;> omega)
end Go.Proofs.YtcpgmmlaimkojaaGreatDoor
