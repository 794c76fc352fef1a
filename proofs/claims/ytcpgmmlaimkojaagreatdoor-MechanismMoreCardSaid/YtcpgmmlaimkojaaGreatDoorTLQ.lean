/- What the code's plans ask of actions: rights,needs,slack,exclusion,as contracts. No condition. -/
import Derived.Test.YtcpgmmlaimkojaaGreatDoorLPC
set_option linter.unusedSimpArgs false
set_option linter.unusedVariables false
set_option linter.unusedSectionVars false
namespace Go.Proofs.YtcpgmmlaimkojaaGreatDoor
open Go.RowKit
set_option maxRecDepth 100000
set_option maxHeartbeats 32000000
theorem acC_eq (a:Actn):acC a=[.int .i64 a.op,intsA a.args,.arr (chE a.eff.delta),.arr (rwE a.eff.hold),.arr (udE a.eff.ups)]:=rfl
theorem rwC_eq (r:Rw):rwC r=[.arr (tmE r.terms),.int .i64 r.bound]:=rfl
theorem tm_bnd {n:Nat} {d:List Chg} (hd:allI (chgOk n d) d=true) {l:List Tm} (ht:allI (termOk n l) l=true) {t:Tm} (h:t∈l):(-1000≤t.factor∧t.factor≤1000)∧(-1000000000≤addAt d t.cell∧addAt d t.cell≤1000000000)∧(-1000000000000≤t.factor * addAt d t.cell∧t.factor * addAt d t.cell≤1000000000000):=by
 have h1:=(term_of ht h).2
 have h2:=add_bnd hd t.cell
 have h3:=mul_bnd (A:=1000) (B:=1000000000) h1 h2
 omega
def chgP (d:List Chg) (l:List Tm) (q:Nat):Int:=(l.take q).foldl (fun n t=>n+t.factor * addAt d t.cell) 0
theorem chgP_s {d:List Chg} {l:List Tm} {q:Nat} {t:Tm} (h:l[q]?=some t):chgP d l (q+1)=chgP d l q+t.factor * addAt d t.cell:=foldl_snoc _ _ h
theorem chgP_b {n:Nat} {d:List Chg} (hd:allI (chgOk n d) d=true) {l:List Tm} (ht:allI (termOk n l) l=true) (q:Nat) : -(1000000000000 * (l.length:Int))≤chgP d l q∧chgP d l q≤1000000000000 * (l.length:Int):=by
 have h:=sumF_bnd (l:=l.take q) (g:=fun n (t:Tm)=>n+t.factor * addAt d t.cell) (B:=1000000000000) (by omega) (fun n t h=>by
  have:=(tm_bnd hd ht (List.mem_of_mem_take h)).2.2
  try dsimp only
  omega) 0
 have hl:((l.take q).length:Int)≤l.length:=by rw [List.length_take];omega
 unfold chgP
 omega
theorem pchg_c {n:Nat} {a:Actn} {r:Rw} (hn:n≤100000) (hd:allI (chgOk n a.eff.delta) a.eff.delta=true) (ht:allI (termOk n r.terms) r.terms=true) (hdl:a.eff.delta.length≤140737488351232):Cl cfg 137 [.t (.agg (acC a)),.t (.agg (rwC r))] [] (.t (.int .i64 (chgR a.eff.delta r))) []:=by
 have hlT:=tmE_len r.terms
 have hln:=term_len ht
 have e0:chgR a.eff.delta r=chgP a.eff.delta r.terms r.terms.length:=by unfold chgR chgP;rw [List.take_length]
 have ka:=fun c=>dadded_c (a:=a) (c:=c) hdl
 rw [e0]
 rw [rwC_eq]
 rw [acC_eq] at ka ⊢
 refine Cl.of_body rfl Tryz.func137 rfl rfl rfl ?_
 refine drvR ?_
 refine EvL.ind (fun q:Nat=>[(5,.t (.int .i64 (chgP a.eff.delta r.terms q))),(11,.t (.int .i64 (q:Int)))]) (fun q=>q≤r.terms.length) (fun q=>r.terms.length - q) 0 rfl (by omega) (fun q h1=>?_)
 rcases Nat.lt_or_ge q r.terms.length with h3|h3
 ·
  obtain ⟨t,htq⟩:=get_of_lt h3
  have hc:=tmE_get htq
  have ka:=ka t.cell
  obtain ⟨b1,b2,b3⟩:=tm_bnd hd ht (List.mem_of_getElem? htq)
  have hs:=chgP_s (d:=a.eff.delta) htq
  have hb:=chgP_b hd ht q
  have hb':=chgP_b hd ht (q+1)
  rw [hs] at hb'
  obtain ⟨v,hv⟩:∃ v,addAt a.eff.delta t.cell=v:=⟨_,rfl⟩
  rw [hv] at ka b2 b3 hs hb'
  obtain ⟨P,hP⟩:∃ P,chgP a.eff.delta r.terms q=P:=⟨_,rfl⟩
  rw [hP] at hs hb hb' ⊢
  refine drvR ?_
  exact ⟨q+1,by rw [hs];rfl,rfl,by omega,by omega⟩
 ·
  obtain rfl:q=r.terms.length:=by omega
  exact drv
theorem rngs_few {m:Md} (h:modelB m=true):(rngs m.sorts m.tables true).length≤128:=by
 unfold modelB at h
 simp only [Bool.and_eq_true] at h
 have hv:=h.1.1.1
 have hcl:=rngsC_len m.sorts true m.tables
 unfold rngs
 rw [if_pos hv]
 unfold layB at hv
 simp only [Bool.and_eq_true,decide_eq_true_eq] at hv
 have:=hv.2.2.1
 omega
theorem chgA_b {m:Md} {k:Int} {r:Rw} (h:modelB m=true) (hk:inActs m k=true) (hr:rowB (rngs m.sorts m.tables true).length r=true) : -128000000000000≤chgA m k r∧chgA m k r≤128000000000000:=by
 have h1:=chgP_b (delta_ok h hk) (row_terms hr) r.terms.length
 have h2:=term_len (row_terms hr)
 have h3:=rngs_few h
 have e:chgA m k r=chgP (m.acts.getD k.toNat zActn).eff.delta r.terms r.terms.length:=by unfold chgA chgR chgP;rw [List.take_length]
 rw [e]
 omega
theorem pChange_c {m:Md} {k:Int} {r:Rw} (hm:MdL m) (hef:∀ a∈m.acts,EfB a.eff) (hop:m.ops.length≤4398046511104) (h:modelB m=true) (hk:inActs m k=true) (hr:rowB (rngs m.sorts m.tables true).length r=true):Cl cfg 101 [.t (mdA m),.t (.int .i64 k),.t (.agg (rwC r))] [] (.t (.int .i64 (chgA m k r))) []:=by
 have kv:=mvalid_c hm hef hop
 have hlA:=acE_len m.acts
 have hma:=hm.acts
 obtain ⟨h0,h1⟩:=inActs_iff.1 hk
 have ha:=act_at hk
 have hd:=delta_ok h hk
 unfold chgA
 obtain ⟨a,hae⟩:∃ a,m.acts.getD k.toNat zActn=a:=⟨_,rfl⟩
 rw [hae] at ha hd ⊢
 have hc:=acE_get ha
 have kc:=pchg_c (a:=a) (r:=r) (by have:=rngs_few h;omega) hd (row_terms hr) (by have:=hm.delta a (List.mem_of_getElem? ha);omega)
 rw [h] at kv
 rw [acC_eq] at kc
 rw [rwC_eq] at kc ⊢
 rw [mdA_eq] at kv ⊢
 refine Cl.of_body rfl Tryz.func101 rfl rfl rfl ?_
 exact drv
theorem ndE_len' (l:List Ned):(ndE l).length=l.length:=List.length_map _
theorem ndE_app (l m:List Ned):ndE l++ndE m=ndE (l++m):=by unfold ndE;rw [List.map_append]
theorem row_get {m:Md} {x:Esc} {c:Cn} (h:m.cons[x.con.toNat]?=some c):rowOf m x=c.row:=by unfold rowOf;rw [List.getD_eq_getElem?_getD,h];rfl
theorem chgsL_le {m:Md} {k sg:Int}:∀ (l:List Esc) (i:Nat),(chgsL m k sg i l).length≤l.length
 | [],_=>by simp [chgsL]
 | x::l,i=>by
  unfold chgsL
  have:=chgsL_le (m:=m) (k:=k) (sg:=sg) l (i+1)
  split <;> simp <;> omega
theorem shrsL_le {m:Md} {k R:Int}:∀ (l:List Lck) (i:Nat),(shrsL m k R i l).length≤l.length
 | [],_=>by simp [shrsL]
 | x::l,i=>by
  unfold shrsL
  have:=shrsL_le (m:=m) (k:=k) (R:=R) l (i+1)
  split <;> simp <;> omega
theorem lenN {n:Nat} (h:n≤1000000000000):lenOk n 32=true:=by simp [lenOk];omega
theorem pchgs_c {m:Md} {p:Pln} {k sg:Int} (h:PW m p) (hv:planB m p=true) (hk:inActs m k=true) (hs:sg=1∨sg = -1) (hfe:p.esc.length≤100000000):Cl cfg 69 [.t (mdA m),.t (plA p),.t (.int .i64 k),.t (.int .i64 sg)] [] (.ls 0) [.row false false 4 (ndE (chgsL m k sg 0 p.esc))]:=by
 have hlE:=esE_len p.esc
 have hlC:=cnE_len m.cons
 have h1e:=h.pl.esc
 have h1c:=h.md.cons
 have hpl:=plan_iff.1 hv
 have hmv:=hpl.model
 have kC:=fun r hr=>pChange_c (r:=r) h.md h.ef h.op hmv hk hr
 obtain ⟨T,hT⟩:∃ T,chgsL m k sg 0 p.esc=T:=⟨_,rfl⟩
 rw [hT]
 unfold plA
 rw [mdA_eq] at kC ⊢
 rw [plC_eq]
 refine Cl.of_body rfl Tryz.func69 rfl rfl rfl ?_
 refine drvR ?_
 refine EvL.indF (fun x:Nat×Bool×List Ned=>[(9,.ls 2),(16,.t (.int .i64 (x.1:Int)))]) (fun x=>[.box false 30 (([intsA m.sorts,.arr (tbE m.tables),.arr (nmE m.fams),.arr (cnE m.cons),.arr (opE m.ops),.arr (acE m.acts),.arr (hdE m.hides)]:List AV).map .t),.box false 35 (([.arr (esE p.esc),.arr (lkE p.locks),.arr (mbE p.places),intsA p.need]:List AV).map .t),.row false x.2.1 4 (ndE x.2.2)]) (fun x=>x.1≤p.esc.length∧x.2.2.length≤x.1∧x.2.2++chgsL m k sg x.1 (p.esc.drop x.1)=T) (fun x=>p.esc.length - x.1) (0,false,[]) rfl rfl ⟨by dsimp only;omega,by simp,hT⟩ (fun x hq=>?_)
 obtain ⟨q,tch,O⟩:=x
 dsimp only at hq ⊢
 obtain ⟨h1,h1',h2⟩:=hq
 rcases Nat.lt_or_ge q p.esc.length with h3|h3
 ·
  obtain ⟨x,hx⟩:=get_of_lt h3
  have hc:=esE_get hx
  obtain ⟨⟨g1,g2⟩,_⟩:=hpl.esc x (List.mem_of_getElem? hx)
  obtain ⟨c,hcn⟩:=get_of_lt (xs:=m.cons) (k:=x.con.toNat) (by omega)
  have hcc:=cnE_get hcn
  have hrow:=hpl.row (List.mem_of_getElem? hx)
  have kC:=kC (rowOf m x) hrow
  have hb:=chgA_b (k:=k) hmv hk hrow
  rw [drop_get hx] at h2
  unfold chgsL at h2
  obtain ⟨v,hvv⟩:∃ v,chgA m k (rowOf m x)=v:=⟨_,rfl⟩
  rw [hvv] at kC hb h2
  rw [row_get hcn,rwC_eq] at kC
  have hsv : -128000000000000≤sg * v∧sg * v≤128000000000000:=by rcases hs with rfl|rfl <;> omega
  obtain ⟨w,hw⟩:∃ w,sg * v=w:=⟨_,rfl⟩
  have hlX:lenOk ((ndE O).length+1) 32=true:=by rw [ndE_len'];exact lenN (by omega)
  by_cases h0:0 < sg * v
  ·
   rw [if_pos h0] at h2
   have hsn:ndE O++[[.int .i64 0,.int .i64 (q:Int),.int .i64 0,.int .i64 (sg * v)]]=ndE (O++[⟨0,(q:Int),0,sg * v⟩]):=(ndE_app O [⟨0,(q:Int),0,sg * v⟩])
   repeat' (first
|(with_reducible first|apply EvK.seq|apply EvK.block)
|((with_reducible apply EvK.text);(try case hm=>exact rfl))
|((with_reducible apply EvK.drawn);(case hm=>exact rfl))
|(with_reducible first|apply EvK.skip|apply thenK_n)
|((with_reducible apply EvK.cond_t);(case hc=>exact rfl))
|((with_reducible apply EvO.spd_t);(case hp=>exact fao))
|(with_reducible first|apply EvO.nilT|apply EvO.nilB)
|((with_reducible apply EvO.u);(case hx=>((with_reducible apply OpR.apr);(case hs=>exact fun _=>rfl);(case ha|ht=>exact rfl);(case hr=>first|(with_reducible exact rw0)|(with_reducible exact rw1)|(with_reducible exact rw2)|(with_reducible exact rw3)|(with_reducible exact rw4)|exact rfl);(case hx|hy|hn|hb|hok=>exact rfl);(case hlen=>exact hlX);(case hv=>exact hsn);(case hk=>exact kfr);(case hf=>exact leq))))
|((with_reducible apply EvO.u0);(case hx=>first
|((with_reducible apply OpR.mul);(case hx|hy=>exact rfl);(case h=>omega))
|(exact oqF kC)
|exact opq))
|fail)
   exact ⟨(q+1,true,O++[⟨0,(q:Int),0,sg * v⟩]),rfl,rfl,⟨by dsimp only;omega,by simp;omega,by dsimp only;rw [List.append_assoc];exact h2⟩,by dsimp only;omega⟩
  ·
   rw [if_neg h0] at h2
   refine drvR ?_
   exact ⟨(q+1,tch,O),rfl,rfl,⟨by dsimp only;omega,by dsimp only;omega,h2⟩,by dsimp only;omega⟩
 ·
  rw [drop_end h3] at h2
  unfold chgsL at h2
  rw [List.append_nil] at h2
  subst h2
  exact drv
def inNeeds (m:Md) (p:Pln) (k R:Int):Bool:=planB m p && (inActs m k && (decide (1≤R) && decide (R≤5)))
theorem inNeeds_iff {m:Md} {p:Pln} {k R:Int}:inNeeds m p k R=true↔planB m p=true∧(0≤k∧k < m.acts.length)∧1≤R∧R≤5:=by
 unfold inNeeds
 rw [Bool.and_eq_true,Bool.and_eq_true,Bool.and_eq_true,inActs_iff,decide_eq_true_eq,decide_eq_true_eq]
theorem pneeds_no {m:Md} {p:Pln} {k R:Int} (h:PW m p) (hn:inNeeds m p k R=false):Cl cfg 20 [.t (mdA m),.t (plA p),.t (.int .i64 k),.t (.int .i64 R)] [] (.tup [.nil,.t (.bool false)]) []:=by
 have kv:=h.v
 have hlA:=acE_len m.acts
 have hma:=h.md.acts
 have hn':¬ (planB m p=true∧(0≤k∧k < m.acts.length)∧1≤R∧R≤5):=by rw [← inNeeds_iff,hn];decide
 obtain ⟨b,hb⟩:∃ b,planB m p=b:=⟨_,rfl⟩
 rw [hb] at kv hn'
 unfold plA at kv ⊢
 rw [mdA_eq,plC_eq] at kv ⊢
 refine Cl.of_body rfl Tryz.func20 rfl rfl rfl ?_
 cases b with
 | false=>
  exact drv
 | true=>
  repeat' (first
|(with_reducible apply EvK.seq)
|((with_reducible apply EvK.text);(try case hm=>exact rfl))
|(with_reducible first|apply EvK.skip|apply EvK.ret|apply thenK_n|apply thenK_r)
|((with_reducible apply EvK.cond_t);(case hc=>exact rfl))
|((with_reducible apply EvK.cond_f);(case hc=>exact rfl))
|((with_reducible apply EvO.spd_y) <;> intro hq)
|(with_reducible apply EvO.nilT)
|((with_reducible apply EvO.gf);(case hW=>exact rfl))
|((with_reducible apply EvO.gt0);(case hW=>exact rfl);(case hx=>exact opq))
|((with_reducible apply EvO.u0);(case hx=>first
|(exact oqF kv)
|exact opq))
|fail)
  all_goals first
   | exact ⟨.inr rfl,rfl⟩
   | (exfalso;apply hn';refine ⟨rfl,⟨?_,?_⟩,?_,?_⟩ <;> omega)
theorem pneeds_c {m:Md} {p:Pln} {k R:Int} (h:PW m p) (hn:inNeeds m p k R=true) (hfe:p.esc.length≤100000000):Cl cfg 20 [.t (mdA m),.t (plA p),.t (.int .i64 k),.t (.int .i64 R)] [] (.tup [.ls 0,.t (.bool (placedB p k))]) [.row false false 4 (ndE (needsL m p k R))]:=by
 have kv:=h.v
 have hlA:=acE_len m.acts
 have hma:=h.md.acts
 obtain ⟨hv,⟨hk0,hk1⟩,hR0,hR1⟩:=inNeeds_iff.1 hn
 have hk:inActs m k=true:=inActs_iff.2 ⟨hk0,hk1⟩
 have hpl:=plan_iff.1 hv
 have hlK:=lkE_len p.locks
 have h1k:=h.pl.locks
 have hfw:=hpl.few
 have kc:=pchgs_c (sg:=1) h hv hk (.inl rfl) hfe
 have kp:=pplaced_c (p:=p) (k:=k) (by have:=h.pl.places;omega)
 have kt:=fun (L:Lck) (hL:L∈p.locks)=>ptakes_c (L:=L) (k:=k) (by have:=h.pl.mem L hL;omega) (lock_iff.1 (hpl.lock L hL)).memR
 have kw:=fun (L:Lck)=>pwriter_c (L:=L) (k:=k) h.md hk
 have ke:=fun (L:Lck) (hL:L∈p.locks) (hb:partB L k=true)=>pelem_c (L:=L) (k:=k) h.md hpl.model (lock_iff.1 (hpl.lock L hL)) hb
 have hle:=chgsL_le (m:=m) (k:=k) (sg:=1) p.esc 0
 obtain ⟨C,hC⟩:∃ C,chgsL m k 1 0 p.esc=C:=⟨_,rfl⟩
 have e0:needsL m p k R=C++shrsL m k R 0 p.locks:=by unfold needsL;rw [hC]
 obtain ⟨T,hT⟩:∃ T,C++shrsL m k R 0 p.locks=T:=⟨_,rfl⟩
 rw [e0,hT]
 rw [hC] at kc hle
 rw [hv] at kv
 obtain ⟨pb,hpb⟩:∃ b,placedB p k=b:=⟨_,rfl⟩
 rw [hpb] at kp ⊢
 unfold plA at kv kc kp ⊢
 rw [mdA_eq] at kv kc kw ke ⊢
 rw [plC_eq] at kv kc kp ⊢
 refine Cl.of_body rfl Tryz.func20 rfl rfl rfl ?_
 refine drvR ?_
 refine EvL.indF (fun x:Nat×Bool×List Ned=>[(10,.ls 2),(44,.t (.int .i64 (x.1:Int)))]) (fun x=>[.box false 30 (([intsA m.sorts,.arr (tbE m.tables),.arr (nmE m.fams),.arr (cnE m.cons),.arr (opE m.ops),.arr (acE m.acts),.arr (hdE m.hides)]:List AV).map .t),.box false 35 (([.arr (esE p.esc),.arr (lkE p.locks),.arr (mbE p.places),intsA p.need]:List AV).map .t),.row false x.2.1 4 (ndE x.2.2)]) (fun x=>x.1≤p.locks.length∧x.2.2.length≤C.length+x.1∧x.2.2++shrsL m k R x.1 (p.locks.drop x.1)=T) (fun x=>p.locks.length - x.1) (0,false,C) rfl rfl ⟨by dsimp only;omega,by dsimp only;omega,hT⟩ (fun x hq=>?_)
 obtain ⟨q,tch,O⟩:=x
 dsimp only at hq ⊢
 obtain ⟨h1,h1',h2⟩:=hq
 rcases Nat.lt_or_ge q p.locks.length with h3|h3
 ·
  obtain ⟨L,hx⟩:=get_of_lt h3
  have hmem:=List.mem_of_getElem? hx
  have hc:=lkE_get hx
  have kt:=kt L hmem
  have kw:=kw L
  have ke:=ke L hmem
  have hLo:=lock_iff.1 (hpl.lock L hmem)
  rw [drop_get hx] at h2
  unfold shrsL at h2
  have hlX:lenOk ((ndE O).length+1) 32=true:=by rw [ndE_len'];exact lenN (by omega)
  rw [lkC_eq] at kt kw ke
  cases hb:partB L k with
  | true=>
   have ke:=ke hb
   rw [hLo.write hb] at kw
   rw [hb] at kt
   rw [hb,if_pos rfl] at h2
   obtain ⟨E,hE⟩:∃ E,elemL m L k=E:=⟨_,rfl⟩
   rw [hE] at ke h2
   cases hw:writeB m L k with
   | true=>
    rw [hw] at kw
    rw [hw,if_pos rfl] at h2
    have hsn:ndE O++[[.int .i64 1,.int .i64 (q:Int),.int .i64 E,.int .i64 R]]=ndE (O++[⟨1,(q:Int),E,R⟩]):=(ndE_app O [⟨1,(q:Int),E,R⟩])
    repeat' (first
|(with_reducible first|apply EvK.seq|apply EvK.block)
|((with_reducible apply EvK.text);(try case hm=>exact rfl))
|(with_reducible first|apply EvK.skip|apply thenK_n)
|((with_reducible apply EvK.cond_t);(case hc=>exact rfl))
|((with_reducible apply EvK.cond_f);(case hc=>exact rfl))
|((with_reducible apply EvO.spd_t);(case hp=>exact fao))
|(with_reducible first|apply EvO.nilT|apply EvO.nilB)
|((with_reducible apply EvO.u);(case hx=>((with_reducible apply OpR.apr);(case hs=>exact fun _=>rfl);(case ha|ht=>exact rfl);(case hr=>first|(with_reducible exact rw0)|(with_reducible exact rw1)|(with_reducible exact rw2)|(with_reducible exact rw3)|(with_reducible exact rw4)|exact rfl);(case hx|hy|hn|hb|hok=>exact rfl);(case hlen=>exact hlX);(case hv=>exact hsn);(case hk=>exact kfr);(case hf=>exact leq))))
|((with_reducible apply EvO.u0);(case hx=>first
|(exact oqF kt)
|(exact oqF kw)
|(exact oqF ke)
|exact opq))
|fail)
    exact ⟨(q+1,true,O++[⟨1,(q:Int),E,R⟩]),rfl,rfl,⟨by dsimp only;omega,by simp;omega,by dsimp only;rw [List.append_assoc];exact h2⟩,by dsimp only;omega⟩
   | false=>
    rw [hw] at kw
    rw [hw,if_neg (by decide)] at h2
    have hsn:ndE O++[[.int .i64 1,.int .i64 (q:Int),.int .i64 E,.int .i64 1]]=ndE (O++[⟨1,(q:Int),E,1⟩]):=(ndE_app O [⟨1,(q:Int),E,1⟩])
    repeat' (first
|(with_reducible first|apply EvK.seq|apply EvK.block)
|((with_reducible apply EvK.text);(try case hm=>exact rfl))
|(with_reducible first|apply EvK.skip|apply thenK_n)
|((with_reducible apply EvK.cond_t);(case hc=>exact rfl))
|((with_reducible apply EvK.cond_f);(case hc=>exact rfl))
|((with_reducible apply EvO.spd_t);(case hp=>exact fao))
|(with_reducible first|apply EvO.nilT|apply EvO.nilB)
|((with_reducible apply EvO.u);(case hx=>((with_reducible apply OpR.apr);(case hs=>exact fun _=>rfl);(case ha|ht=>exact rfl);(case hr=>first|(with_reducible exact rw0)|(with_reducible exact rw1)|(with_reducible exact rw2)|(with_reducible exact rw3)|(with_reducible exact rw4)|exact rfl);(case hx|hy|hn|hb|hok=>exact rfl);(case hlen=>exact hlX);(case hv=>exact hsn);(case hk=>exact kfr);(case hf=>exact leq))))
|((with_reducible apply EvO.u0);(case hx=>first
|(exact oqF kt)
|(exact oqF kw)
|(exact oqF ke)
|exact opq))
|fail)
    exact ⟨(q+1,true,O++[⟨1,(q:Int),E,1⟩]),rfl,rfl,⟨by dsimp only;omega,by simp;omega,by dsimp only;rw [List.append_assoc];exact h2⟩,by dsimp only;omega⟩
  | false=>
   rw [hb] at kt
   rw [hb,if_neg (by decide)] at h2
   refine drvR ?_
   exact ⟨(q+1,tch,O),rfl,rfl,⟨by dsimp only;omega,by dsimp only;omega,h2⟩,by dsimp only;omega⟩
 ·
  rw [drop_end h3] at h2
  unfold shrsL at h2
  rw [List.append_nil] at h2
  rw [← h2]
  exact drv
theorem pgives_c {m:Md} {p:Pln} {k:Int} (h:PW m p) (hv:planB m p=true) (hk:inActs m k=true) (hfe:p.esc.length≤100000000):Cl cfg 23 [.t (mdA m),.t (plA p),.t (.int .i64 k)] [] (.ls 0) [.row false false 4 (ndE (chgsL m k (-1) 0 p.esc))]:=by
 have kv:=h.v
 have hlA:=acE_len m.acts
 have hma:=h.md.acts
 obtain ⟨hk0,hk1⟩:=inActs_iff.1 hk
 have kc:=pchgs_c (sg := -1) h hv hk (.inr rfl) hfe
 rw [hv] at kv
 unfold plA at kv kc ⊢
 rw [mdA_eq,plC_eq] at kv kc ⊢
 refine Cl.of_body rfl Tryz.func23 rfl rfl rfl ?_
 exact drv
end Go.Proofs.YtcpgmmlaimkojaaGreatDoor
namespace Go.Proofs.YtcpgmmlaimkojaaGreatDoor
open Go.RowKit
set_option maxRecDepth 100000
set_option maxHeartbeats 32000000
def inV (n:Int):Bool:=decide (-1000000≤n) && decide (n≤1000000)
theorem lenG8 {n:Nat} (h:n≤1000000000000):lenOk n 8=true:=by simp [lenOk];omega
theorem pslk1_c (n:Int):Cl cfg 74 [.t (.int .i64 n)] [] (.t (.bool (!inV n))) []:=by
 unfold inV
 refine Cl.of_body rfl Tryz.func74 rfl rfl rfl ?_
 exact drv
def slkP (s:List Int) (r:Rw) (q:Nat):Int:=(r.terms.take q).foldl (fun n t=>n - t.factor * s.getD t.cell.toNat 0) r.bound
theorem slkP_s {s:List Int} {r:Rw} {q:Nat} {t:Tm} (h:r.terms[q]?=some t):slkP s r (q+1)=slkP s r q - t.factor * s.getD t.cell.toNat 0:=foldl_snoc _ _ h
theorem slkP_N (s:List Int) (r:Rw):slkP s r r.terms.length=slackR s r:=by unfold slkP slackR;rw [List.take_length]
theorem tm_bndS {n:Nat} {s:List Int} (hs:∀ x∈s,-1000000≤x∧x≤1000000) {l:List Tm} (ht:allI (termOk n l) l=true) {t:Tm} (h:t∈l) : -1000000000≤t.factor * s.getD t.cell.toNat 0∧t.factor * s.getD t.cell.toNat 0≤1000000000:=by
 have hx : -1000000≤s.getD t.cell.toNat 0∧s.getD t.cell.toNat 0≤1000000:=by
  rw [List.getD_eq_getElem?_getD]
  cases hg:s[t.cell.toNat]? with
  | none=>simp
  | some x=>exact hs x (List.mem_of_getElem? hg)
 have:=mul_bnd (A:=1000) (B:=1000000) (term_of ht h).2 hx
 omega
theorem slkP_b {n:Nat} {s:List Int} (hs:∀ x∈s,-1000000≤x∧x≤1000000) {r:Rw} (hr:rowB n r=true) (q:Nat) : -1000000000 - 1000000000 * (r.terms.length:Int)≤slkP s r q∧slkP s r q≤1000000000+1000000000 * (r.terms.length:Int):=by
 have h:=sumF_bnd (l:=r.terms.take q) (g:=fun n (t:Tm)=>n - t.factor * s.getD t.cell.toNat 0) (B:=1000000000) (by omega) (fun n t h=>by
  have:=tm_bndS hs (row_terms hr) (List.mem_of_mem_take h)
  try dsimp only
  omega) r.bound
 have hl:((r.terms.take q).length:Int)≤r.terms.length:=by rw [List.length_take];omega
 have hb:=row_bound hr
 unfold slkP
 omega
def inSlack (m:Md) (p:Pln) (s:List Int):Bool:=planB m p && (decide (s.length=(rngs m.sorts m.tables true).length) && s.all inV)
theorem inV_all {s:List Int} (h:s.all inV=true):∀ x∈s,-1000000≤x∧x≤1000000:=fun x hx=>by
 have:=List.all_eq_true.1 h x hx
 unfold inV at this
 simpa using this
theorem slk_snoc {m:Md} {p:Pln} {s:List Int} {q:Nat} {x:Esc} (h:p.esc[q]?=some x):intsE ((p.esc.take q).map fun x=>slackR s (rowOf m x))++[[.int .i64 (slackR s (rowOf m x))]]=intsE ((p.esc.take (q+1)).map fun x=>slackR s (rowOf m x)):=by
 rw [List.take_add_one,h]
 simp [intsE]
theorem pslack_c {m:Md} {p:Pln} {s:List Int} (h:PW m p) (hs:s.length≤140737488351232) (hn:inSlack m p s=true) (hfe:p.esc.length≤100000000):Cl cfg 26 [.t (mdA m),.t (plA p),.t (intsA s)] [] (.ls 0) [.row false false 1 (intsE (slackL m p s))]:=by
 have kv:=h.v
 have hls:=intsE_len s
 have kc:=conslk_c (C:=s) (p:=fun n=>!inV n) hs (fun n _=>pslk1_c n)
 have hlE:=esE_len p.esc
 have hlC:=cnE_len m.cons
 have h1e:=h.pl.esc
 have h1c:=h.md.cons
 unfold inSlack at hn
 rw [Bool.and_eq_true,Bool.and_eq_true,decide_eq_true_eq] at hn
 obtain ⟨hv,hl,ha⟩:=hn
 have hsb:=inV_all ha
 have hpl:=plan_iff.1 hv
 have hmv:=hpl.model
 have km:=mstrict_c h.md h.ef h.op hmv
 have hlR:=rgE_len (rngs m.sorts m.tables true)
 have hrw:=fun (x:Esc) (hx:x∈p.esc)=>hpl.row hx
 have hfw:=rngs_few hmv
 rw [any_not inV s,Bool.not_eq_true'] at ha
 rw [ha] at kc
 rw [hv] at kv
 obtain ⟨R,hR⟩:∃ R,rngs m.sorts m.tables true=R:=⟨_,rfl⟩
 rw [hR] at km hlR hl hrw hfw
 have e0:slackL m p s=(p.esc.take p.esc.length).map fun x=>slackR s (rowOf m x):=by unfold slackL;rw [List.take_length]
 rw [e0]
 unfold plA at kv ⊢
 rw [mdA_eq] at kv km ⊢
 rw [plC_eq] at kv ⊢
 refine Cl.of_body rfl Tryz.func26 rfl rfl rfl ?_
 refine drvR ?_
 refine EvL.indF (fun x:Nat×Bool=>[(7,.ls 3),(33,.t (.int .i64 (x.1:Int)))]) (fun x=>[.box false 30 (([intsA m.sorts,.arr (tbE m.tables),.arr (nmE m.fams),.arr (cnE m.cons),.arr (opE m.ops),.arr (acE m.acts),.arr (hdE m.hides)]:List AV).map .t),.box false 35 (([.arr (esE p.esc),.arr (lkE p.locks),.arr (mbE p.places),intsA p.need]:List AV).map .t),.row false false 2 (rgE R),.row false x.2 1 (intsE ((p.esc.take x.1).map fun x=>slackR s (rowOf m x)))]) (fun x=>x.1≤p.esc.length) (fun x=>p.esc.length - x.1) (0,false) rfl rfl (by dsimp only;omega) (fun x hq=>?_)
 obtain ⟨q,tch⟩:=x
 dsimp only at hq ⊢
 rcases Nat.lt_or_ge q p.esc.length with h3|h3
 ·
  obtain ⟨x,hx⟩:=get_of_lt h3
  have hc:=esE_get hx
  obtain ⟨⟨g1,g2⟩,_⟩:=hpl.esc x (List.mem_of_getElem? hx)
  obtain ⟨c,hcn⟩:=get_of_lt (xs:=m.cons) (k:=x.con.toNat) (by omega)
  have hcc:=cnE_get hcn
  have hr:=hrw x (List.mem_of_getElem? hx)
  have hsn:=slk_snoc (m:=m) (s:=s) hx
  rw [row_get hcn] at hr hsn
  have hlT:=tmE_len c.row.terms
  have htl:=term_len (row_terms hr)
  have hlX:lenOk ((intsE ((p.esc.take q).map fun x=>slackR s (rowOf m x))).length+1) 8=true:=by
   rw [intsE_len,List.length_map,List.length_take]
   exact lenG8 (by omega)
  refine drvR ?_
  refine EvL.ind (fun j:Nat=>[(11,.t (.int .i64 (slkP s c.row j))),(49,.t (.int .i64 (j:Int)))]) (fun j=>j≤c.row.terms.length) (fun j=>c.row.terms.length - j) 0 rfl (by omega) (fun j hj=>?_)
  rcases Nat.lt_or_ge j c.row.terms.length with h4|h4
  ·
   obtain ⟨t,ht⟩:=get_of_lt h4
   have hct:=tmE_get ht
   have htm:=List.mem_of_getElem? ht
   obtain ⟨⟨t0,t1⟩,_⟩:=term_of (row_terms hr) htm
   have hb3:=tm_bndS hsb (row_terms hr) htm
   obtain ⟨v,hvv⟩:=get_of_lt (xs:=s) (k:=t.cell.toNat) (by omega)
   have hcv:=intsE_get hvv
   have hs1:=slkP_s (s:=s) ht
   have hb:=slkP_b hsb hr j
   have hb':=slkP_b hsb hr (j+1)
   rw [hs1] at hb'
   rw [List.getD_eq_getElem?_getD,hvv,Option.getD_some] at hb3 hs1 hb'
   obtain ⟨P,hP⟩:∃ P,slkP s c.row j=P:=⟨_,rfl⟩
   rw [hP] at hs1 hb hb' ⊢
   refine drvR ?_
   exact ⟨j+1,by rw [hs1];rfl,rfl,by omega,by omega⟩
  ·
   obtain rfl:j=c.row.terms.length:=by omega
   rw [slkP_N]
   repeat' (first
|(with_reducible apply EvK.seq)
|((with_reducible apply EvK.text);(try case hm=>exact rfl))
|(with_reducible first|apply EvK.exit|apply thenK_n|apply thenK_e|apply blockK_h)
|((with_reducible apply EvK.cond_f);(case hc=>exact rfl))
|((with_reducible apply EvO.spd_f);(case hp=>exact fao))
|(with_reducible first|apply EvO.nilT|apply EvO.nilB)
|((with_reducible apply EvO.u);(case hx=>((with_reducible apply OpR.apr);(case hs=>exact fun _=>rfl);(case ha|ht=>exact rfl);(case hr=>first|(with_reducible exact rw0)|(with_reducible exact rw1)|(with_reducible exact rw2)|(with_reducible exact rw3)|(with_reducible exact rw4)|exact rfl);(case hx|hy|hn|hb|hok=>exact rfl);(case hlen=>exact hlX);(case hv=>exact hsn);(case hk=>exact kfr);(case hf=>exact leq))))
|((with_reducible apply EvO.u0);(case hx=>exact opq))
|fail)
   exact ⟨(q+1,true),rfl,rfl,by dsimp only;omega,by dsimp only;omega⟩
 ·
  obtain rfl:q=p.esc.length:=by omega
  exact drv
theorem pexcl_c {m:Md} {p:Pln} {e f:Int} (h:PW m p):Cl cfg 28 [.t (mdA m),.t (plA p),.t (.int .i64 e),.t (.int .i64 f)] [] (.t (.bool (planB m p && exclB m p e f))) []:=by
 have kv:=h.v
 have hlK:=lkE_len p.locks
 have h1k:=h.pl.locks
 have kpe:=pplaced_c (p:=p) (k:=e) (by have:=h.pl.places;omega)
 have kpf:=pplaced_c (p:=p) (k:=f) (by have:=h.pl.places;omega)
 obtain ⟨A,hA⟩:∃ A,p.locks.any (exclL m e f)=A:=⟨_,rfl⟩
 cases hb:planB m p with
 | false=>
  rw [hb] at kv
  rw [Bool.false_and]
  unfold plA at kv ⊢
  rw [mdA_eq,plC_eq] at kv ⊢
  refine Cl.of_body rfl Tryz.func28 rfl rfl rfl ?_
  exact drv
 | true=>
  rw [hb] at kv
  rw [Bool.true_and]
  have hpl:=plan_iff.1 hb
  have kt:=fun (k:Int) (L:Lck) (hL:L∈p.locks)=>ptakes_c (L:=L) (k:=k) (by have:=h.pl.mem L hL;omega) (lock_iff.1 (hpl.lock L hL)).memR
  have kw:=fun (k:Int) (L:Lck) hk=>pwriter_c (L:=L) (k:=k) h.md hk
  have ke:=fun (k:Int) (L:Lck) (hL:L∈p.locks) (hb:partB L k=true)=>pelem_c (L:=L) (k:=k) h.md hpl.model (lock_iff.1 (hpl.lock L hL)) hb
  unfold exclB
  obtain ⟨a,ha⟩:∃ b,placedB p e=b:=⟨_,rfl⟩
  obtain ⟨b,hb'⟩:∃ b,placedB p f=b:=⟨_,rfl⟩
  rw [ha] at kpe ⊢
  rw [hb'] at kpf ⊢
  have e0:p.locks.any (exclL m e f)=(p.locks.drop 0).any (exclL m e f):=rfl
  rw [e0]
  unfold plA at kv kpe kpf ⊢
  rw [mdA_eq] at kv kw ke ⊢
  rw [plC_eq] at kv kpe kpf ⊢
  refine Cl.of_body rfl Tryz.func28 rfl rfl rfl ?_
  cases hab:(a && b) with
  | true=>
   rw [Bool.true_or]
   rw [Bool.and_eq_true] at hab
   obtain ⟨rfl,rfl⟩:=hab
   exact drv
  | false=>
   rw [Bool.false_or]
   have hcase:a=false∨(a=true∧b=false):=by cases a <;> cases b <;> simp_all
   rcases hcase with rfl|⟨rfl,rfl⟩
   ·
    refine drvR ?_
    refine EvL.ind (fun q:Nat=>[(26,.t (.int .i64 (q:Int)))]) (fun q=>q≤p.locks.length∧(p.locks.drop 0).any (exclL m e f)=(p.locks.drop q).any (exclL m e f)) (fun q=>p.locks.length - q) 0 rfl ⟨by omega,rfl⟩ (fun q hq=>?_)
    obtain ⟨h1,h2⟩:=hq
    rw [h2]
    rcases Nat.lt_or_ge q p.locks.length with h3|h3
    ·
     obtain ⟨L,hx⟩:=get_of_lt h3
     have hmem:=List.mem_of_getElem? hx
     have hc:=lkE_get hx
     have hht:=any_hit (exclL m e f) hx
     have hLo:=lock_iff.1 (hpl.lock L hmem)
     have kte:=kt e L hmem
     have ktf:=kt f L hmem
     have kee:=ke e L hmem
     have kef:=ke f L hmem
     have kwe:=kw e L
     have kwf:=kw f L
     rw [lkC_eq] at kte ktf kee kef kwe kwf
     rw [hht]
     unfold exclL
     cases hpe:partB L e with
     | false=>
      rw [hpe] at kte
      rw [Bool.false_and,Bool.false_and,Bool.false_or]
      exact drv
     | true=>
      cases hpf:partB L f with
      | false=>
       rw [hpe] at kte
       rw [hpf] at ktf
       rw [Bool.and_false,Bool.false_and,Bool.false_or]
       exact drv
      | true=>
       have kee:=kee hpe
       have kef:=kef hpf
       have kwe:=kwe (hLo.part hpe).1
       have kwf:=kwf (hLo.part hpf).1
       rw [hLo.write hpe] at kwe
       rw [hLo.write hpf] at kwf
       rw [hpe] at kte
       rw [hpf] at ktf
       obtain ⟨x,hxe⟩:∃ x,elemL m L e=x:=⟨_,rfl⟩
       obtain ⟨y,hye⟩:∃ x,elemL m L f=x:=⟨_,rfl⟩
       rw [hxe] at kee ⊢
       rw [hye] at kef ⊢
       obtain ⟨w1,hwe⟩:∃ x,writeB m L e=x:=⟨_,rfl⟩
       obtain ⟨w2,hwf⟩:∃ x,writeB m L f=x:=⟨_,rfl⟩
       rw [hwe] at kwe ⊢
       rw [hwf] at kwf ⊢
       by_cases hxy:x=y
       ·
        rw [decide_eq_true hxy]
        cases w1 with
        | true=>
         exact drv
        | false=>
         cases w2 with
         | true=>
          exact drv
         | false=>
          exact drv
       ·
        rw [decide_eq_false hxy]
        exact drv
    ·
     rw [any_end _ h3]
     exact drv
   ·
    refine drvR ?_
    refine EvL.ind (fun q:Nat=>[(26,.t (.int .i64 (q:Int)))]) (fun q=>q≤p.locks.length∧(p.locks.drop 0).any (exclL m e f)=(p.locks.drop q).any (exclL m e f)) (fun q=>p.locks.length - q) 0 rfl ⟨by omega,rfl⟩ (fun q hq=>?_)
    obtain ⟨h1,h2⟩:=hq
    rw [h2]
    rcases Nat.lt_or_ge q p.locks.length with h3|h3
    ·
     obtain ⟨L,hx⟩:=get_of_lt h3
     have hmem:=List.mem_of_getElem? hx
     have hc:=lkE_get hx
     have hht:=any_hit (exclL m e f) hx
     have hLo:=lock_iff.1 (hpl.lock L hmem)
     have kte:=kt e L hmem
     have ktf:=kt f L hmem
     have kee:=ke e L hmem
     have kef:=ke f L hmem
     have kwe:=kw e L
     have kwf:=kw f L
     rw [lkC_eq] at kte ktf kee kef kwe kwf
     rw [hht]
     unfold exclL
     cases hpe:partB L e with
     | false=>
      rw [hpe] at kte
      rw [Bool.false_and,Bool.false_and,Bool.false_or]
      exact drv
     | true=>
      cases hpf:partB L f with
      | false=>
       rw [hpe] at kte
       rw [hpf] at ktf
       rw [Bool.and_false,Bool.false_and,Bool.false_or]
       exact drv
      | true=>
       have kee:=kee hpe
       have kef:=kef hpf
       have kwe:=kwe (hLo.part hpe).1
       have kwf:=kwf (hLo.part hpf).1
       rw [hLo.write hpe] at kwe
       rw [hLo.write hpf] at kwf
       rw [hpe] at kte
       rw [hpf] at ktf
       obtain ⟨x,hxe⟩:∃ x,elemL m L e=x:=⟨_,rfl⟩
       obtain ⟨y,hye⟩:∃ x,elemL m L f=x:=⟨_,rfl⟩
       rw [hxe] at kee ⊢
       rw [hye] at kef ⊢
       obtain ⟨w1,hwe⟩:∃ x,writeB m L e=x:=⟨_,rfl⟩
       obtain ⟨w2,hwf⟩:∃ x,writeB m L f=x:=⟨_,rfl⟩
       rw [hwe] at kwe ⊢
       rw [hwf] at kwf ⊢
       by_cases hxy:x=y
       ·
        rw [decide_eq_true hxy]
        cases w1 with
        | true=>
         exact drv
        | false=>
         cases w2 with
         | true=>
          exact drv
         | false=>
          exact drv
       ·
        rw [decide_eq_false hxy]
        exact drv
    ·
     rw [any_end _ h3]
     exact drv
end Go.Proofs.YtcpgmmlaimkojaaGreatDoor
