/- What the code's plans ask of actions,as contracts. No condition. -/
import Derived.Test.YtcpgmmlaimkojaaGreatDoorTLP
import Derived.Test.YtcpgmmlaimkojaaGreatDoorTP
set_option linter.unusedSimpArgs false
set_option linter.unusedVariables false
set_option linter.unusedSectionVars false
namespace Go.Proofs.YtcpgmmlaimkojaaGreatDoor
open Go.RowKit
set_option maxRecDepth 100000
set_option maxHeartbeats 32000000
theorem frU {σ:Nat→Option Nat} {ks:List AV} {n:Nat} {b b':Lb} {bs bs':Fr} (hb:b=b') (h:bs=bs'):(b::Lb.map false ks (SV.subL σ (truV n))::bs)=b'::Lb.map false ks (truV n)::bs':=by rw [truV_eq,subL_trees,hb,h]
def actN (l:List Mem) (q:Nat):List Int:=(l.take q).map (·.act)
theorem actN_snoc {l:List Mem} {q:Nat} {x:Mem} (h:l[q]?=some x):intK (actN l q)++[.int .i64 x.act]=intK (actN l (q+1)):=by unfold actN intK;rw [List.take_add_one,h];simp
theorem actN_new {l:List Mem} (hr:riseB Mem.act l=true) {q:Nat} {x:Mem} (h:l[q]?=some x):((actN l q).any fun u=>decide (u=x.act))=false:=by
 rw [← Bool.not_eq_true,List.any_eq_true]
 rintro ⟨u,hu,he⟩
 rw [decide_eq_true_eq] at he
 obtain ⟨y,hy,rfl⟩:=List.mem_map.1 hu
 obtain ⟨j,hj⟩:=List.mem_iff_getElem?.1 hy
 have hjq:j < q:=by
  have:=(List.getElem?_eq_some_iff.1 hj).1
  rw [List.length_take] at this
  omega
 rw [List.getElem?_take,if_pos hjq] at hj
 have hp:=List.pairwise_iff_getElem.1 (rise_iff.1 hr) j q (List.getElem?_eq_some_iff.1 hj).1 (List.getElem?_eq_some_iff.1 h).1 hjq
 rw [(List.getElem?_eq_some_iff.1 hj).2,(List.getElem?_eq_some_iff.1 h).2] at hp
 have hp:y.act < x.act:=hp
 omega
theorem actN_any {L:Lck} {k:Int}:((actN L.mem L.mem.length).any fun u=>decide (u=k))=partB L k:=by unfold actN partB;rw [List.take_length,List.any_map];rfl
theorem ptakes_c {L:Lck} {k:Int} (hL:L.mem.length≤140737488351232) (hr:riseB Mem.act L.mem=true):Cl cfg 70 [.t (.agg (lkC L)),.t (.int .i64 k)] [] (.t (.bool (partB L k))) []:=by
 have hlM:=mbE_len L.mem
 rw [lkC_eq]
 refine Cl.of_body rfl Tryz.func70 rfl rfl rfl ?_
 refine drvR ?_
 refine EvL.indF (fun q:Nat=>[(12,.t (.int .i64 (q:Int)))]) (fun q=>[.box false 84 (([.int .i64 L.a,.int .i64 L.b,.int .i64 L.pa,.int .i64 L.pb,.arr (mbE L.mem)]:List AV).map .t),.map false (intK (actN L.mem q)) (truV q)]) (fun q=>q≤L.mem.length) (fun q=>L.mem.length - q) 0 rfl rfl (by omega) (fun q h1=>?_)
 rcases Nat.lt_or_ge q L.mem.length with h3|h3
 ·
  obtain ⟨x,hx⟩:=get_of_lt h3
  have hc:=mbE_get hx
  have hf:=fint_no (actN_new hr hx)
  have hks:=actN_snoc hx
  have hvs:=truV_snoc q
  repeat' (first
|(with_reducible first|apply EvK.seq|apply EvK.block)
|((with_reducible apply EvK.text);(try case hm=>exact rfl))
|(with_reducible first|apply EvK.skip|apply thenK_n)
|((with_reducible apply EvK.cond_t);(case hc=>exact rfl))
|((with_reducible apply EvO.spd_t);(case hp=>exact fao))
|(with_reducible first|apply EvO.nilT|apply EvO.nilB)
|((with_reducible apply EvO.u0);(case hx=>first
|((with_reducible apply OpR.mpk);(case hs=>exact fun _=>rfl);(case hm|ha|hk|hd|hy|hb=>exact rfl);(case hf=>exact hf);(case hks=>exact hks);(case hvs=>exact hvs);(case hfr=>exact leq))
|exact opq))
|fail)
  exact ⟨q+1,rfl,frU rfl rfl,by omega,by omega⟩
 ·
  obtain rfl:q=L.mem.length:=by omega
  cases hp:partB L k with
  | true=>
   obtain ⟨j,hf,hj⟩:=fint_yes (s:=k) (N:=actN L.mem L.mem.length) (by rw [actN_any];exact hp)
   have hz:=truV_at (n:=L.mem.length) (j:=j) (by unfold actN at hj;simpa using hj)
   repeat' (first
|(with_reducible apply EvK.seq)
|((with_reducible apply EvK.text);(try case hm=>exact rfl))
|(with_reducible first|apply EvK.exit|apply EvK.ret|apply thenK_n|apply thenK_e|apply blockK_h)
|((with_reducible apply EvK.cond_f);(case hc=>exact rfl))
|((with_reducible apply EvO.spd_f);(case hp=>exact fao))
|(with_reducible apply EvO.nilT)
|((with_reducible apply EvO.u0);(case hx=>first
|((with_reducible apply OpR.lki);(case hm|hk|ho=>exact rfl);(case hf=>exact hf);(case hz=>exact hz))
|exact opq))
|fail)
   exact ⟨.inr rfl,rfl⟩
  | false=>
   have hf:=fint_no (s:=k) (N:=actN L.mem L.mem.length) (by rw [actN_any];exact hp)
   repeat' (first
|(with_reducible apply EvK.seq)
|((with_reducible apply EvK.text);(try case hm=>exact rfl))
|(with_reducible first|apply EvK.exit|apply EvK.ret|apply thenK_n|apply thenK_e|apply blockK_h)
|((with_reducible apply EvK.cond_f);(case hc=>exact rfl))
|((with_reducible apply EvO.spd_f);(case hp=>exact fao))
|(with_reducible apply EvO.nilT)
|((with_reducible apply EvO.u0);(case hx=>first
|((with_reducible apply OpR.lk);(case hm|hk|ho=>exact rfl);(case hf=>exact hf);(case hz=>exact rfl))
|exact opq))
|fail)
   exact ⟨.inr rfl,rfl⟩
theorem pplc1_c (x:Mem) (k:Int):Cl cfg 102 [.t (.agg (mbC x)),.t (.tp [.int .i64 k])] [] (.t (.bool (decide (x.act=k)))) []:=by
 rw [mbC_eq]
 refine Cl.of_body rfl Tryz.func102 rfl rfl rfl ?_
 by_cases he:x.act=k
 ·
  rw [decide_eq_true he]
  exact drv
 ·
  rw [decide_eq_false he]
  exact drv
theorem pplaced_c {p:Pln} {k:Int} (hl:p.places.length≤140737488351232):Cl cfg 71 [.t (plA p),.t (.int .i64 k)] [] (.t (.bool (placedB p k))) []:=by
 have kc:=conplcd_c (C:=p.places) (p:=fun x=>decide (x.act=k)) (c1:=.tp [.int .i64 k]) hl (fun x _=>pplc1_c x k)
 unfold plA placedB
 rw [plC_eq]
 generalize (p.places.any fun x=>decide (x.act=k))=b at *
 refine Cl.of_body rfl Tryz.func71 rfl rfl rfl ?_
 exact drv
theorem pwriter_c {m:Md} {L:Lck} {k:Int} (hm:MdL m) (hk:inActs m k=true):Cl cfg 61 [.t (mdA m),.t (.agg (lkC L)),.t (.int .i64 k)] [] (.t (.bool (decide (L.a=L.b) || decide (opAt m k=L.b)))) []:=by
 have hlA:=acE_len m.acts
 have hma:=hm.acts
 obtain ⟨h0,h1⟩:=inActs_iff.1 hk
 obtain ⟨a,ha⟩:=get_of_lt (xs:=m.acts) (k:=k.toNat) (by omega)
 have hc:=acE_get ha
 rw [opAt_get ha,lkC_eq,mdA_eq]
 refine Cl.of_body rfl Tryz.func61 rfl rfl rfl ?_
 by_cases he:L.a=L.b
 ·
  rw [decide_eq_true he]
  exact drv
 ·
  rw [decide_eq_false he]
  by_cases hb:a.op=L.b
  ·
   rw [decide_eq_true hb]
   exact drv
  ·
   rw [decide_eq_false hb]
   exact drv
theorem arg_get {m:Md} {k:Int} (h:modelB m=true) (hk:inActs m k=true) {i:Int} (hi:0≤i) (hl:i < (opnAt m (opAt m k)).sorts.length):(m.acts.getD k.toNat zActn).args[i.toNat]?=some (argAt m k i):=by
 have ha:=acts_ok h (act_at hk)
 unfold actOk at ha
 simp only [Bool.and_eq_true,decide_eq_true_eq] at ha
 have hlen:=ha.1.1.2
 unfold argAt
 exact getD_some (by unfold opnAt opAt at hl;omega)
theorem pelem_c {m:Md} {L:Lck} {k:Int} (hm:MdL m) (hv:modelB m=true) (hL:LockOk m L) (hp:partB L k=true):Cl cfg 65 [.t (mdA m),.t (.agg (lkC L)),.t (.int .i64 k)] [] (.t (.int .i64 (elemL m L k))) []:=by
 have hlA:=acE_len m.acts
 have hma:=hm.acts
 obtain ⟨hk,ho⟩:=hL.part hp
 obtain ⟨h0,h1⟩:=inActs_iff.1 hk
 have ha:=act_at hk
 obtain ⟨a,hae⟩:∃ a,m.acts.getD k.toNat zActn=a:=⟨_,rfl⟩
 rw [hae] at ha
 have hc:=acE_get ha
 have hop:opAt m k=a.op:=opAt_get ha
 have hlg:=intsE_len a.args
 unfold elemL
 rw [lkC_eq,mdA_eq]
 rcases hL.par_cases with ⟨p1,p2⟩|⟨⟨p1,p1'⟩,⟨p2,p2'⟩,_⟩
 ·
  rw [if_pos (by omega)]
  refine Cl.of_body rfl Tryz.func65 rfl rfl rfl ?_
  exact drv
 ·
  rw [if_neg (by omega)]
  by_cases he:opAt m k=L.a
  ·
   rw [if_pos he]
   have hg:=arg_get hv hk (i:=L.pa) p1 (by rw [he];exact p1')
   rw [hae] at hg
   have hgc:=intsE_get hg
   rw [hop] at he
   obtain ⟨v,hv'⟩:∃ v,argAt m k L.pa=v:=⟨_,rfl⟩
   rw [hv'] at hgc ⊢
   refine Cl.of_body rfl Tryz.func65 rfl rfl rfl ?_
   exact drv
  ·
   rw [if_neg he]
   have hb:opAt m k=L.b:=by omega
   have hg:=arg_get hv hk (i:=L.pb) p2 (by rw [hb];exact p2')
   rw [hae] at hg
   have hgc:=intsE_get hg
   rw [hop] at he
   obtain ⟨v,hv'⟩:∃ v,argAt m k L.pb=v:=⟨_,rfl⟩
   rw [hv'] at hgc ⊢
   refine Cl.of_body rfl Tryz.func65 rfl rfl rfl ?_
   repeat' (first
|(with_reducible first|apply EvK.seq|apply EvK.block)
|((with_reducible apply EvK.text);(try case hm=>exact rfl))
|(with_reducible first|apply EvK.skip|apply EvK.ret|apply thenK_n|apply blockK_n)
|((with_reducible apply EvK.cond_f);(case hc=>exact rfl))
|((with_reducible apply EvO.spd_f);(case hp=>exact fao))
|(with_reducible apply EvO.nilT)
|((with_reducible apply EvO.u0);(case hx=>exact opq))
|fail)
   exact ⟨.inr rfl,rfl⟩
structure PW (m:Md) (p:Pln):Prop where
 md:MdL m
 ef:∀ a∈m.acts,EfB a.eff
 op:m.ops.length≤4398046511104
 pl:PlL p
theorem PW.v {m:Md} {p:Pln} (h:PW m p):Cl cfg 12 [.t (mdA m),.t (plA p)] [] (.t (.bool (planB m p))) []:=pvalid_c h.md h.ef h.op h.pl
theorem lck_get {p:Pln} {i:Int} (h0:0≤i) (h1:i < p.locks.length):p.locks[i.toNat]?=some (lckAt p i):=getD_some (by omega)
theorem lck_ok {m:Md} {p:Pln} {i:Int} (hv:planB m p=true) (h0:0≤i) (h1:i < p.locks.length):LockOk m (lckAt p i):=lock_iff.1 ((plan_iff.1 hv).lock _ (List.mem_of_getElem? (lck_get h0 h1)))
def zLk:SV:=.t (.agg [.int .i64 0,.int .i64 0,.int .i64 0,.int .i64 0,.arr []])
theorem ppart_in {m:Md} {p:Pln} {i k:Int} (h:PW m p) (hv:planB m p=true) (h0:0≤i) (h1:i < p.locks.length):Cl cfg 60 [.t (mdA m),.t (plA p),.t (.int .i64 i),.t (.int .i64 k)] [] (.tup [.t (.agg (lkC (lckAt p i))),.t (.bool (partB (lckAt p i) k))]) []:=by
 have kv:=h.v
 have hlK:=lkE_len p.locks
 have h1k:=h.pl.locks
 have hg:=lck_get h0 h1
 have hL:=lck_ok hv h0 h1
 have hmem:=h.pl.mem _ (List.mem_of_getElem? hg)
 obtain ⟨L,hLe⟩:∃ L,lckAt p i=L:=⟨_,rfl⟩
 rw [hLe] at hg hL hmem ⊢
 have kt:=ptakes_c (L:=L) (k:=k) (by omega) hL.memR
 have hc:=lkE_get hg
 rw [hv] at kv
 unfold plA at kv ⊢
 rw [mdA_eq,plC_eq] at kv ⊢
 rw [lkC_eq] at kt ⊢
 generalize partB L k=b at *
 refine Cl.of_body rfl Tryz.func60 rfl rfl rfl ?_
 repeat' (first
|(with_reducible apply EvK.seq)
|((with_reducible apply EvK.text);(try case hm=>exact rfl))
|((with_reducible apply EvK.drawn);(case hm=>exact rfl))
|(with_reducible first|apply EvK.skip|apply EvK.ret|apply thenK_n)
|((with_reducible apply EvK.cond_f);(case hc=>exact rfl))
|((with_reducible apply EvO.spd_yf);(case hp=>exact fao))
|(with_reducible apply EvO.nilT)
|((with_reducible apply EvO.gt0);(case hW=>exact rfl);(case hx=>exact opq))
|((with_reducible apply EvO.u0);(case hx=>first
|(exact oqF kv)
|(exact oqF kt)
|exact opq))
|fail)
 exact ⟨.inr rfl,by kernel_rfl⟩
theorem ppart_no {m:Md} {p:Pln} {i k:Int} (h:PW m p) (hn:¬ (planB m p=true∧0≤i∧i < p.locks.length)):Cl cfg 60 [.t (mdA m),.t (plA p),.t (.int .i64 i),.t (.int .i64 k)] [] (.tup [zLk,.t (.bool false)]) []:=by
 have kv:=h.v
 have hlK:=lkE_len p.locks
 have h1k:=h.pl.locks
 unfold zLk
 obtain ⟨b,hb⟩:∃ b,planB m p=b:=⟨_,rfl⟩
 rw [hb] at kv hn
 unfold plA at kv ⊢
 rw [mdA_eq,plC_eq] at kv ⊢
 refine Cl.of_body rfl Tryz.func60 rfl rfl rfl ?_
 cases b with
 | false=>
  exact drv
 | true=>
  repeat' (first
|(with_reducible apply EvK.seq)
|((with_reducible apply EvK.text);(try case hm=>exact rfl))
|((with_reducible apply EvK.drawn);(case hm=>exact rfl))
|(with_reducible first|apply EvK.skip|apply EvK.ret|apply thenK_n|apply thenK_r)
|((with_reducible apply EvK.cond_t);(case hc=>exact rfl))
|((with_reducible apply EvK.cond_f);(case hc=>exact rfl))
|((with_reducible apply EvO.spd_y) <;> intro hq)
|(with_reducible apply EvO.nilT)
|((with_reducible apply EvO.gf);(case hW=>exact rfl))
|((with_reducible apply EvO.gt0);(case hW=>exact rfl);(case hx=>exact opq))
|((with_reducible apply EvO.u0);(case hx=>first
|(exact oqF kv)
|exact opq))
|fail)
  all_goals first
   | exact ⟨.inr rfl,rfl⟩
   | (exfalso;apply hn;refine ⟨rfl,?_,?_⟩ <;> omega)
def okP (m:Md) (p:Pln) (i k:Int):Bool:=(planB m p && inLocks p i) && partB (lckAt p i) k
theorem inLocks_iff {p:Pln} {i:Int}:inLocks p i=true↔0≤i∧i < p.locks.length:=by
 unfold inLocks
 simp only [Bool.and_eq_true,decide_eq_true_eq]
theorem okP_no {m:Md} {p:Pln} {i k:Int} (hn:¬ (planB m p=true∧0≤i∧i < p.locks.length)):okP m p i k=false:=by
 rw [← Bool.not_eq_true]
 unfold okP
 rw [Bool.and_eq_true,Bool.and_eq_true,inLocks_iff]
 exact fun h=>hn ⟨h.1.1,h.1.2⟩
theorem okP_in {m:Md} {p:Pln} {i k:Int} (hv:planB m p=true) (h0:0≤i) (h1:i < p.locks.length):okP m p i k=partB (lckAt p i) k:=by
 unfold okP
 rw [hv,inLocks_iff.2 ⟨h0,h1⟩]
 rfl
theorem pWriter_c {m:Md} {p:Pln} {i k:Int} (h:PW m p):Cl cfg 14 [.t (mdA m),.t (plA p),.t (.int .i64 i),.t (.int .i64 k)] [] (.tup [.t (.bool (okP m p i k && writeB m (lckAt p i) k)),.t (.bool (okP m p i k))]) []:=by
 by_cases hn:planB m p=true∧0≤i∧i < p.locks.length
 ·
  obtain ⟨hv,h0,h1⟩:=hn
  rw [okP_in hv h0 h1]
  have kp:=ppart_in (k:=k) h hv h0 h1
  have hL:=lck_ok hv h0 h1
  obtain ⟨L,hLe⟩:∃ L,lckAt p i=L:=⟨_,rfl⟩
  rw [hLe] at kp hL ⊢
  cases hb:partB L k with
  | true=>
   have kw:=pwriter_c (L:=L) h.md (hL.part hb).1
   rw [hL.write hb] at kw
   obtain ⟨w,hw⟩:∃ w,writeB m L k=w:=⟨_,rfl⟩
   rw [hw] at kw ⊢
   rw [hb] at kp
   unfold plA at kp ⊢
   rw [mdA_eq] at kp kw ⊢
   rw [lkC_eq] at kp kw
   rw [plC_eq] at kp ⊢
   refine Cl.of_body rfl Tryz.func14 rfl rfl rfl ?_
   exact drv
  | false=>
   rw [hb] at kp
   unfold plA at kp ⊢
   rw [mdA_eq] at kp ⊢
   rw [lkC_eq] at kp
   rw [plC_eq] at kp ⊢
   refine Cl.of_body rfl Tryz.func14 rfl rfl rfl ?_
   exact drv
 ·
  have kp:=ppart_no (k:=k) h hn
  rw [okP_no hn,Bool.false_and]
  unfold zLk at kp
  unfold plA at kp ⊢
  rw [mdA_eq,plC_eq] at kp ⊢
  refine Cl.of_body rfl Tryz.func14 rfl rfl rfl ?_
  exact drv
theorem pElement_c {m:Md} {p:Pln} {i k:Int} (h:PW m p):Cl cfg 16 [.t (mdA m),.t (plA p),.t (.int .i64 i),.t (.int .i64 k)] [] (.tup [.t (.int .i64 (if okP m p i k=true then elemL m (lckAt p i) k else 0)),.t (.bool (okP m p i k))]) []:=by
 by_cases hn:planB m p=true∧0≤i∧i < p.locks.length
 ·
  obtain ⟨hv,h0,h1⟩:=hn
  rw [okP_in hv h0 h1]
  have kp:=ppart_in (k:=k) h hv h0 h1
  have hL:=lck_ok hv h0 h1
  obtain ⟨L,hLe⟩:∃ L,lckAt p i=L:=⟨_,rfl⟩
  rw [hLe] at kp hL ⊢
  cases hb:partB L k with
  | true=>
   have kw:=pelem_c (L:=L) h.md (plan_iff.1 hv).model hL hb
   obtain ⟨w,hw⟩:∃ w,elemL m L k=w:=⟨_,rfl⟩
   rw [hw] at kw ⊢
   rw [hb] at kp
   rw [if_pos rfl]
   unfold plA at kp ⊢
   rw [mdA_eq] at kp kw ⊢
   rw [lkC_eq] at kp kw
   rw [plC_eq] at kp ⊢
   refine Cl.of_body rfl Tryz.func16 rfl rfl rfl ?_
   exact drv
  | false=>
   rw [hb] at kp
   rw [if_neg (by decide)]
   unfold plA at kp ⊢
   rw [mdA_eq] at kp ⊢
   rw [lkC_eq] at kp
   rw [plC_eq] at kp ⊢
   refine Cl.of_body rfl Tryz.func16 rfl rfl rfl ?_
   exact drv
 ·
  have kp:=ppart_no (k:=k) h hn
  rw [okP_no hn,if_neg (by decide)]
  unfold zLk at kp
  unfold plA at kp ⊢
  rw [mdA_eq,plC_eq] at kp ⊢
  refine Cl.of_body rfl Tryz.func16 rfl rfl rfl ?_
  exact drv
theorem ops_ok {m:Md} (h:modelB m=true):∀ o∈m.ops,opOk m o=true:=by
 unfold modelB actsB at h
 simp only [Bool.and_eq_true] at h
 exact List.all_eq_true.1 h.2.2.1.1.1
def elemsP (m:Md) (p:Pln) (i:Int):Int:=if planB m p && inLocks p i then elemsL m (lckAt p i) else 0
theorem pElements_c {m:Md} {p:Pln} {i:Int} (h:PW m p):Cl cfg 18 [.t (mdA m),.t (plA p),.t (.int .i64 i)] [] (.t (.int .i64 (elemsP m p i))) []:=by
 have kv:=h.v
 have hlK:=lkE_len p.locks
 have h1k:=h.pl.locks
 have hlS:=intsE_len m.sorts
 have h1s:=h.md.sorts
 unfold elemsP
 by_cases hn:planB m p=true∧0≤i∧i < p.locks.length
 ·
  obtain ⟨hv,h0,h1⟩:=hn
  have hmv:=(plan_iff.1 hv).model
  rw [if_pos (by rw [hv,inLocks_iff.2 ⟨h0,h1⟩];rfl)]
  have hg:=lck_get h0 h1
  have hL:=lck_ok hv h0 h1
  obtain ⟨L,hLe⟩:∃ L,lckAt p i=L:=⟨_,rfl⟩
  rw [hLe] at hg hL ⊢
  have hc:=lkE_get hg
  rw [hv] at kv
  unfold elemsL
  have ks:=psort_c (o:=L.a) (k:=L.pa) h.md hL.a0 (by have:=hL.ab;have:=hL.b;omega)
  rcases hL.par_cases with ⟨p1,p2⟩|⟨⟨p1,p1'⟩,_,_,p4,p5⟩
  ·
   rw [if_pos (by omega)]
   unfold plA at kv ⊢
   rw [mdA_eq,plC_eq] at kv ⊢
   refine Cl.of_body rfl Tryz.func18 rfl rfl rfl ?_
   exact drv
  ·
   rw [if_neg (by omega)]
   obtain ⟨o,ho⟩:=get_of_lt (xs:=m.ops) (k:=L.a.toNat) (by have:=hL.a0;have:=hL.ab;have:=hL.b;omega)
   rw [opn_get ho] at p1' p4 p5
   obtain ⟨s,hs⟩:=get_of_lt (xs:=o.sorts) (k:=L.pa.toNat) (by omega)
   have hso:=op_at (ops_ok hmv o (List.mem_of_getElem? ho)) hs
   rw [List.getD_eq_getElem?_getD,hs,Option.getD_some] at p4 p5
   rw [p5] at ks ⊢
   obtain ⟨n,hn⟩:=get_of_lt (xs:=m.sorts) (k:=s.toNat) (by omega)
   have hnc:=intsE_get hn
   rw [List.getD_eq_getElem?_getD,hn,Option.getD_some]
   unfold plA at kv ⊢
   rw [mdA_eq] at ks kv ⊢
   rw [plC_eq] at kv ⊢
   refine Cl.of_body rfl Tryz.func18 rfl rfl rfl ?_
   exact drv
 ·
  have hf:(planB m p && inLocks p i)=false:=by
   rw [← Bool.not_eq_true,Bool.and_eq_true,inLocks_iff]
   exact hn
  rw [hf,if_neg (by decide)]
  obtain ⟨b,hb⟩:∃ b,planB m p=b:=⟨_,rfl⟩
  rw [hb] at kv hn
  unfold plA at kv ⊢
  rw [mdA_eq,plC_eq] at kv ⊢
  refine Cl.of_body rfl Tryz.func18 rfl rfl rfl ?_
  cases b with
  | false=>
   exact drv
  | true=>
   repeat' (first
|(with_reducible apply EvK.seq)
|((with_reducible apply EvK.text);(try case hm=>exact rfl))
|(with_reducible first|apply EvK.skip|apply EvK.ret|apply thenK_n|apply thenK_r)
|((with_reducible apply EvK.cond_t);(case hc=>exact rfl))
|((with_reducible apply EvK.cond_f);(case hc=>exact rfl))
|((with_reducible apply EvO.spd_y) <;> intro hq)
|(with_reducible apply EvO.nilT)
|((with_reducible apply EvO.gf);(case hW=>exact rfl))
|((with_reducible apply EvO.gt0);(case hW=>exact rfl);(case hx=>exact opq))
|((with_reducible apply EvO.u0);(case hx=>first
|(exact oqF kv)
|exact opq))
|fail)
   all_goals first
    | exact ⟨.inr rfl,rfl⟩
    | (exfalso;apply hn;refine ⟨rfl,?_,?_⟩ <;> omega)
end Go.Proofs.YtcpgmmlaimkojaaGreatDoor
