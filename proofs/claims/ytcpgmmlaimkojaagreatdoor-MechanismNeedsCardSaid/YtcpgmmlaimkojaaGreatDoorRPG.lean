/- What the reference's plans ask of actions: needs,gifts,slack,exclusion,as contracts. No condition. -/
import Derived.Test.YtcpgmmlaimkojaaGreatDoorRPE
import Derived.Test.YtcpgmmlaimkojaaGreatDoorRPF
set_option linter.unusedSimpArgs false
set_option linter.unusedVariables false
set_option linter.unusedSectionVars false
namespace Go.Proofs.YtcpgmmlaimkojaaGreatDoor
open Go.RowKit
set_option maxRecDepth 100000
set_option maxHeartbeats 32000000
theorem rneeds_no {m:Md} {p:Pln} {k R:Int} (h:PW m p) (hn:inNeeds m p k R=false):Cl cfg 21 [.t (mdA m),.t (plA p),.t (.int .i64 k),.t (.int .i64 R)] [] (.tup [.nil,.t (.bool false)]) []:=by
 have kv:=rpv_c h
 have hlA:=acE_len m.acts
 have hma:=h.md.acts
 have hn':¬ (planB m p=true∧(0≤k∧k < m.acts.length)∧1≤R∧R≤5):=by rw [← inNeeds_iff,hn];decide
 obtain ⟨b,hb⟩:∃ b,planB m p=b:=⟨_,rfl⟩
 rw [hb] at kv hn'
 unfold plA at kv ⊢
 rw [mdA_eq,plC_eq] at kv ⊢
 refine Cl.of_body rfl Tryz.func21 rfl rfl rfl ?_
 cases b with
 | false=>
  exact drv
 | true=>
  repeat' (first
|(with_reducible first|apply EvK.seq|apply EvK.block)
|((with_reducible apply EvK.text);(try case hm=>exact rfl))
|(with_reducible first|apply EvK.skip|apply EvK.ret|apply thenK_n|apply thenK_r)
|((with_reducible apply EvK.cond_t);(case hc=>exact rfl))
|((with_reducible apply EvK.cond_f);(case hc=>exact rfl))
|((with_reducible apply EvO.spd_y) <;> intro hq)
|(with_reducible apply EvO.nilT)
|((with_reducible apply EvO.gf);(case hW=>exact rfl))
|((with_reducible apply EvO.gt0);(case hW=>exact rfl);(case hx=>exact opq))
|((with_reducible apply EvO.u0);(case hx=>first
|(exact oqF kv)
|exact opq))
|fail)
  all_goals first
   | exact ⟨.inr rfl,rfl⟩
   | (exfalso;apply hn';refine ⟨rfl,⟨?_,?_⟩,?_,?_⟩ <;> omega)
theorem rSumA_c {m:Md} {k:Int} {r:Rw} {a:Actn} (h:modelB m=true) (hl:EfX m) (hk:inActs m k=true) (ha:m.acts[k.toNat]?=some a) (hr:rowB (rngs m.sorts m.tables true).length r=true):Cl cfg 72 [.t (.agg (efC a.eff)),.t (.agg (rwC r))] [] (.t (.int .i64 (chgA m k r))) []:=by
 have hd:=delta_ok h hk
 have e:m.acts.getD k.toNat zActn=a:=by rw [List.getD_eq_getElem?_getD,ha];rfl
 unfold chgA
 rw [e] at hd ⊢
 exact rSum_c (by have:=rngs_few h;omega) hd (row_terms hr) (hl a (List.mem_of_getElem? ha))
theorem rneeds_c {m:Md} {p:Pln} {k R:Int} (h:PW m p) (hl:EfX m) (hn:inNeeds m p k R=true) (hfe:p.esc.length≤100000000):Cl cfg 21 [.t (mdA m),.t (plA p),.t (.int .i64 k),.t (.int .i64 R)] [] (.tup [.ls 0,.t (.bool (placedB p k))]) [.row false false 4 (ndE (needsL m p k R))]:=by
 have kv:=rpv_c h
 have hlA:=acE_len m.acts
 have hma:=h.md.acts
 obtain ⟨hv,⟨hk0,hk1⟩,hR0,hR1⟩:=inNeeds_iff.1 hn
 have hk:inActs m k=true:=inActs_iff.2 ⟨hk0,hk1⟩
 have hpl:=plan_iff.1 hv
 have hmv:=hpl.model
 have hlK:=lkE_len p.locks
 have h1k:=h.pl.locks
 have hfw:=hpl.few
 have hlE:=esE_len p.esc
 have hlC:=cnE_len m.cons
 have h1e:=h.pl.esc
 have h1c:=h.md.cons
 obtain ⟨a,ha⟩:=get_of_lt (xs:=m.acts) (k:=k.toNat) (by omega)
 have hca:=acE_get ha
 have kC:=fun r hr=>rSumA_c (r:=r) hmv hl hk ha hr
 have kp:=rplaced_c (p:=p) (k:=k) (by have:=h.pl.places;omega)
 have kt:=fun (L:Lck) (q:Nat) (hL:p.locks[q]?=some L)=>rpart_c (k:=k) (i:=(q:Int)) h.pl (by omega) (by rw [Int.toNat_natCast];exact hL)
 have kw:=fun (L:Lck) (q:Nat) (hL:p.locks[q]?=some L)=>rwrites_c (k:=k) (i:=(q:Int)) h.md h.pl (by omega) (by rw [Int.toNat_natCast];exact hL) hk
 have ke:=fun (L:Lck) (q:Nat) (hL:p.locks[q]?=some L) hb=>rof_c (k:=k) (i:=(q:Int)) h.md h.pl hmv (by omega) (by rw [Int.toNat_natCast];exact hL) (lock_iff.1 (hpl.lock L (List.mem_of_getElem? hL))) hb
 have hle:=chgsL_le (m:=m) (k:=k) (sg:=1) p.esc 0
 obtain ⟨T1,hT1⟩:∃ C,chgsL m k 1 0 p.esc=C:=⟨_,rfl⟩
 obtain ⟨T,hT⟩:∃ T,T1++shrsL m k R 0 p.locks=T:=⟨_,rfl⟩
 have e0:needsL m p k R=T:=by unfold needsL;rw [hT1,hT]
 rw [e0]
 rw [hT1] at hle
 rw [hv] at kv
 rw [efC_eq] at kC
 obtain ⟨pb,hpb⟩:∃ b,placedB p k=b:=⟨_,rfl⟩
 rw [hpb] at kp ⊢
 unfold plA at kv kp kt kw ke ⊢
 rw [mdA_eq] at kv kw ke ⊢
 rw [plC_eq] at kv kp kt kw ke ⊢
 refine Cl.of_body rfl Tryz.func21 rfl rfl rfl ?_
 refine drvR ?_
 refine EvL.indF (fun x:Nat×Bool×List Ned=>[(10,.ls 2),(11,.t (.int .i64 (x.1:Int)))]) (fun x=>[.box false 30 (([intsA m.sorts,.arr (tbE m.tables),.arr (nmE m.fams),.arr (cnE m.cons),.arr (opE m.ops),.arr (acE m.acts),.arr (hdE m.hides)]:List AV).map .t),.box false 35 (([.arr (esE p.esc),.arr (lkE p.locks),.arr (mbE p.places),intsA p.need]:List AV).map .t),.row false x.2.1 4 (ndE x.2.2)]) (fun x=>x.1≤p.esc.length∧x.2.2.length≤x.1∧x.2.2++chgsL m k 1 x.1 (p.esc.drop x.1)=T1) (fun x=>p.esc.length - x.1) (0,false,[]) rfl rfl ⟨by dsimp only;omega,by simp,hT1⟩ (fun x hq=>?_)
 obtain ⟨q,tch,O⟩:=x
 dsimp only at hq ⊢
 obtain ⟨h1,h1',h2⟩:=hq
 rcases Nat.lt_or_ge q p.esc.length with h3|h3
 ·
  obtain ⟨x,hx⟩:=get_of_lt h3
  have hc:=esE_get hx
  obtain ⟨⟨g1,g2⟩,_⟩:=hpl.esc x (List.mem_of_getElem? hx)
  obtain ⟨c,hcn⟩:=get_of_lt (xs:=m.cons) (k:=x.con.toNat) (by omega)
  have hcc:=cnE_get hcn
  have hrow:=hpl.row (List.mem_of_getElem? hx)
  have kC:=kC (rowOf m x) hrow
  have hb:=chgA_b (k:=k) hmv hk hrow
  rw [drop_get hx] at h2
  unfold chgsL at h2
  rw [Int.one_mul] at h2
  obtain ⟨v,hvv⟩:∃ v,chgA m k (rowOf m x)=v:=⟨_,rfl⟩
  rw [hvv] at kC hb h2
  rw [row_get hcn,rwC_eq] at kC
  have hlX:lenOk ((ndE O).length+1) 32=true:=by rw [ndE_len'];exact lenN (by omega)
  by_cases h0:0 < v
  ·
   rw [if_pos h0] at h2
   have hsn:ndE O++[[.int .i64 0,.int .i64 (q:Int),.int .i64 0,.int .i64 v]]=ndE (O++[⟨0,(q:Int),0,v⟩]):=(ndE_app O [⟨0,(q:Int),0,v⟩])
   repeat' (first
|(with_reducible first|apply EvK.seq|apply EvK.block)
|((with_reducible apply EvK.text);(try case hm=>exact rfl))
|((with_reducible apply EvK.drawn);(case hm=>exact rfl))
|(with_reducible first|apply EvK.skip|apply thenK_n)
|((with_reducible apply EvK.cond_t);(case hc=>exact rfl))
|((with_reducible apply EvO.spd_t);(case hp=>exact fao))
|(with_reducible first|apply EvO.nilT|apply EvO.nilB)
|((with_reducible apply EvO.u);(case hx=>((with_reducible apply OpR.apr);(case hs=>exact fun _=>rfl);(case ha|ht=>exact rfl);(case hr=>first|(with_reducible exact rw0)|(with_reducible exact rw1)|(with_reducible exact rw2)|(with_reducible exact rw3)|(with_reducible exact rw4)|exact rfl);(case hx|hy|hn|hb|hok=>exact rfl);(case hlen=>exact hlX);(case hv=>exact hsn);(case hk=>exact kfr);(case hf=>exact leq))))
|((with_reducible apply EvO.u0);(case hx=>first
|(exact oqF kC)
|exact opq))
|fail)
   exact ⟨(q+1,true,O++[⟨0,(q:Int),0,v⟩]),rfl,rfl,⟨by dsimp only;omega,by simp;omega,by dsimp only;rw [List.append_assoc];exact h2⟩,by dsimp only;omega⟩
  ·
   rw [if_neg h0] at h2
   refine drvR ?_
   exact ⟨(q+1,tch,O),rfl,rfl,⟨by dsimp only;omega,by dsimp only;omega,h2⟩,by dsimp only;omega⟩
 ·
  rw [drop_end h3] at h2
  unfold chgsL at h2
  rw [List.append_nil] at h2
  have hO:=h2
  rw [← hO] at hT hle
  refine drvR ?_
  refine EvL.indF (fun x:Nat×Bool×List Ned=>[(10,.ls 2),(13,.t (.int .i64 (x.1:Int)))]) (fun x=>[.box false 30 (([intsA m.sorts,.arr (tbE m.tables),.arr (nmE m.fams),.arr (cnE m.cons),.arr (opE m.ops),.arr (acE m.acts),.arr (hdE m.hides)]:List AV).map .t),.box false 35 (([.arr (esE p.esc),.arr (lkE p.locks),.arr (mbE p.places),intsA p.need]:List AV).map .t),.row false x.2.1 4 (ndE x.2.2)]) (fun x=>x.1≤p.locks.length∧x.2.2.length≤O.length+x.1∧x.2.2++shrsL m k R x.1 (p.locks.drop x.1)=T) (fun x=>p.locks.length - x.1) (0,tch,O) rfl rfl ⟨by dsimp only;omega,by dsimp only;omega,hT⟩ (fun x hq=>?_)
  obtain ⟨q',tch',O'⟩:=x
  dsimp only at hq ⊢
  obtain ⟨g1,g1',g2⟩:=hq
  rcases Nat.lt_or_ge q' p.locks.length with g3|g3
  ·
   obtain ⟨L,hx⟩:=get_of_lt g3
   have hmem:=List.mem_of_getElem? hx
   have kt:=kt L q' hx
   have kw:=kw L q' hx
   have ke:=ke L q' hx
   rw [drop_get hx] at g2
   unfold shrsL at g2
   have hlX:lenOk ((ndE O').length+1) 32=true:=by rw [ndE_len'];exact lenN (by omega)
   cases hb:partB L k with
   | true=>
    have ke:=ke hb
    rw [hb] at kt
    rw [hb,if_pos rfl] at g2
    obtain ⟨E,hE⟩:∃ E,elemL m L k=E:=⟨_,rfl⟩
    rw [hE] at ke g2
    cases hw:writeB m L k with
    | true=>
     rw [hw] at kw
     rw [hw,if_pos rfl] at g2
     have hsn:ndE O'++[[.int .i64 1,.int .i64 (q':Int),.int .i64 E,.int .i64 R]]=ndE (O'++[⟨1,(q':Int),E,R⟩]):=(ndE_app O' [⟨1,(q':Int),E,R⟩])
     repeat' (first
|(with_reducible first|apply EvK.seq|apply EvK.block)
|((with_reducible apply EvK.text);(try case hm=>exact rfl))
|(with_reducible first|apply EvK.skip|apply thenK_n)
|((with_reducible apply EvK.cond_t);(case hc=>exact rfl))
|((with_reducible apply EvO.spd_t);(case hp=>exact fao))
|(with_reducible first|apply EvO.nilT|apply EvO.nilB)
|((with_reducible apply EvO.u);(case hx=>((with_reducible apply OpR.apr);(case hs=>exact fun _=>rfl);(case ha|ht=>exact rfl);(case hr=>first|(with_reducible exact rw0)|(with_reducible exact rw1)|(with_reducible exact rw2)|(with_reducible exact rw3)|(with_reducible exact rw4)|exact rfl);(case hx|hy|hn|hb|hok=>exact rfl);(case hlen=>exact hlX);(case hv=>exact hsn);(case hk=>exact kfr);(case hf=>exact leq))))
|((with_reducible apply EvO.u0);(case hx=>first
|(exact oqF kt)
|(exact oqF kw)
|(exact oqF ke)
|exact opq))
|fail)
     exact ⟨(q'+1,true,O'++[⟨1,(q':Int),E,R⟩]),rfl,rfl,⟨by dsimp only;omega,by simp;omega,by dsimp only;rw [List.append_assoc];exact g2⟩,by dsimp only;omega⟩
    | false=>
     rw [hw] at kw
     rw [hw,if_neg (by decide)] at g2
     have hsn:ndE O'++[[.int .i64 1,.int .i64 (q':Int),.int .i64 E,.int .i64 1]]=ndE (O'++[⟨1,(q':Int),E,1⟩]):=(ndE_app O' [⟨1,(q':Int),E,1⟩])
     repeat' (first
|(with_reducible first|apply EvK.seq|apply EvK.block)
|((with_reducible apply EvK.text);(try case hm=>exact rfl))
|(with_reducible first|apply EvK.skip|apply thenK_n)
|((with_reducible apply EvK.cond_t);(case hc=>exact rfl))
|((with_reducible apply EvK.cond_f);(case hc=>exact rfl))
|((with_reducible apply EvO.spd_t);(case hp=>exact fao))
|(with_reducible first|apply EvO.nilT|apply EvO.nilB)
|((with_reducible apply EvO.u);(case hx=>((with_reducible apply OpR.apr);(case hs=>exact fun _=>rfl);(case ha|ht=>exact rfl);(case hr=>first|(with_reducible exact rw0)|(with_reducible exact rw1)|(with_reducible exact rw2)|(with_reducible exact rw3)|(with_reducible exact rw4)|exact rfl);(case hx|hy|hn|hb|hok=>exact rfl);(case hlen=>exact hlX);(case hv=>exact hsn);(case hk=>exact kfr);(case hf=>exact leq))))
|((with_reducible apply EvO.u0);(case hx=>first
|(exact oqF kt)
|(exact oqF kw)
|(exact oqF ke)
|exact opq))
|fail)
     exact ⟨(q'+1,true,O'++[⟨1,(q':Int),E,1⟩]),rfl,rfl,⟨by dsimp only;omega,by simp;omega,by dsimp only;rw [List.append_assoc];exact g2⟩,by dsimp only;omega⟩
   | false=>
    rw [hb] at kt
    rw [hb,if_neg (by decide)] at g2
    refine drvR ?_
    exact ⟨(q'+1,tch',O'),rfl,rfl,⟨by dsimp only;omega,by dsimp only;omega,g2⟩,by dsimp only;omega⟩
  ·
   rw [drop_end g3] at g2
   unfold shrsL at g2
   rw [List.append_nil] at g2
   rw [← g2]
   exact drv
theorem rgives_no {m:Md} {p:Pln} {k:Int} (h:PW m p) (hn:¬ (planB m p=true∧inActs m k=true)):Cl cfg 24 [.t (mdA m),.t (plA p),.t (.int .i64 k)] [] (.ls 0) [.row false false 4 []]:=by
 have kv:=rpv_c h
 have hlA:=acE_len m.acts
 have hma:=h.md.acts
 rw [inActs_iff] at hn
 obtain ⟨b,hb⟩:∃ b,planB m p=b:=⟨_,rfl⟩
 rw [hb] at kv hn
 unfold plA at kv ⊢
 rw [mdA_eq,plC_eq] at kv ⊢
 refine Cl.of_body rfl Tryz.func24 rfl rfl rfl ?_
 cases b with
 | false=>
  exact drv
 | true=>
  repeat' (first
|(with_reducible first|apply EvK.seq|apply EvK.block)
|((with_reducible apply EvK.text);(try case hm=>exact rfl))
|(with_reducible first|apply EvK.skip|apply EvK.ret|apply thenK_n|apply thenK_r)
|((with_reducible apply EvK.cond_t);(case hc=>exact rfl))
|((with_reducible apply EvK.cond_f);(case hc=>exact rfl))
|((with_reducible apply EvO.spd_y) <;> intro hq)
|(with_reducible apply EvO.nilT)
|((with_reducible apply EvO.gf);(case hW=>exact rfl))
|((with_reducible apply EvO.gt0);(case hW=>exact rfl);(case hx=>exact opq))
|((with_reducible apply EvO.u0);(case hx=>first
|(exact oqF kv)
|exact opq))
|fail)
  all_goals first
   | exact ⟨.inr rfl,rfl⟩
   | (exfalso;apply hn;refine ⟨rfl,?_,?_⟩ <;> omega)
theorem rgives_c {m:Md} {p:Pln} {k:Int} (h:PW m p) (hl:EfX m) (hv:planB m p=true) (hk:inActs m k=true) (hfe:p.esc.length≤100000000):Cl cfg 24 [.t (mdA m),.t (plA p),.t (.int .i64 k)] [] (.ls 0) [.row false false 4 (ndE (chgsL m k (-1) 0 p.esc))]:=by
 have kv:=rpv_c h
 have hlA:=acE_len m.acts
 have hma:=h.md.acts
 obtain ⟨hk0,hk1⟩:=inActs_iff.1 hk
 have hpl:=plan_iff.1 hv
 have hmv:=hpl.model
 have hlE:=esE_len p.esc
 have hlC:=cnE_len m.cons
 have h1e:=h.pl.esc
 have h1c:=h.md.cons
 obtain ⟨a,ha⟩:=get_of_lt (xs:=m.acts) (k:=k.toNat) (by omega)
 have hca:=acE_get ha
 have kC:=fun r hr=>rSumA_c (r:=r) hmv hl hk ha hr
 obtain ⟨T,hT⟩:∃ C,chgsL m k (-1) 0 p.esc=C:=⟨_,rfl⟩
 rw [hT]
 rw [hv] at kv
 rw [efC_eq] at kC
 unfold plA at kv ⊢
 rw [mdA_eq,plC_eq] at kv ⊢
 refine Cl.of_body rfl Tryz.func24 rfl rfl rfl ?_
 refine drvR ?_
 refine EvL.indF (fun x:Nat×Bool×List Ned=>[(7,.ls 2),(8,.t (.int .i64 (x.1:Int)))]) (fun x=>[.box false 30 (([intsA m.sorts,.arr (tbE m.tables),.arr (nmE m.fams),.arr (cnE m.cons),.arr (opE m.ops),.arr (acE m.acts),.arr (hdE m.hides)]:List AV).map .t),.box false 35 (([.arr (esE p.esc),.arr (lkE p.locks),.arr (mbE p.places),intsA p.need]:List AV).map .t),.row false x.2.1 4 (ndE x.2.2)]) (fun x=>x.1≤p.esc.length∧x.2.2.length≤x.1∧x.2.2++chgsL m k (-1) x.1 (p.esc.drop x.1)=T) (fun x=>p.esc.length - x.1) (0,false,[]) rfl rfl ⟨by dsimp only;omega,by simp,hT⟩ (fun x hq=>?_)
 obtain ⟨q,tch,O⟩:=x
 dsimp only at hq ⊢
 obtain ⟨h1,h1',h2⟩:=hq
 rcases Nat.lt_or_ge q p.esc.length with h3|h3
 ·
  obtain ⟨x,hx⟩:=get_of_lt h3
  have hc:=esE_get hx
  obtain ⟨⟨g1,g2⟩,_⟩:=hpl.esc x (List.mem_of_getElem? hx)
  obtain ⟨c,hcn⟩:=get_of_lt (xs:=m.cons) (k:=x.con.toNat) (by omega)
  have hcc:=cnE_get hcn
  have hrow:=hpl.row (List.mem_of_getElem? hx)
  have kC:=kC (rowOf m x) hrow
  have hb:=chgA_b (k:=k) hmv hk hrow
  rw [drop_get hx] at h2
  unfold chgsL at h2
  have en:∀ v:Int,-1 * v=0 - v:=fun v=>by omega
  rw [en] at h2
  obtain ⟨v,hvv⟩:∃ v,chgA m k (rowOf m x)=v:=⟨_,rfl⟩
  rw [hvv] at kC hb h2
  rw [row_get hcn,rwC_eq] at kC
  have hlX:lenOk ((ndE O).length+1) 32=true:=by rw [ndE_len'];exact lenN (by omega)
  by_cases h0:0 < 0 - v
  ·
   rw [if_pos h0] at h2
   have hsn:ndE O++[[.int .i64 0,.int .i64 (q:Int),.int .i64 0,.int .i64 (0 - v)]]=ndE (O++[⟨0,(q:Int),0,0 - v⟩]):=(ndE_app O [⟨0,(q:Int),0,0 - v⟩])
   repeat' (first
|(with_reducible first|apply EvK.seq|apply EvK.block)
|((with_reducible apply EvK.text);(try case hm=>exact rfl))
|((with_reducible apply EvK.drawn);(case hm=>exact rfl))
|(with_reducible first|apply EvK.skip|apply thenK_n)
|((with_reducible apply EvK.cond_t);(case hc=>exact rfl))
|((with_reducible apply EvO.spd_t);(case hp=>exact fao))
|(with_reducible first|apply EvO.nilT|apply EvO.nilB)
|((with_reducible apply EvO.u);(case hx=>((with_reducible apply OpR.apr);(case hs=>exact fun _=>rfl);(case ha|ht=>exact rfl);(case hr=>first|(with_reducible exact rw0)|(with_reducible exact rw1)|(with_reducible exact rw2)|(with_reducible exact rw3)|(with_reducible exact rw4)|exact rfl);(case hx|hy|hn|hb|hok=>exact rfl);(case hlen=>exact hlX);(case hv=>exact hsn);(case hk=>exact kfr);(case hf=>exact leq))))
|((with_reducible apply EvO.u0);(case hx=>first
|((with_reducible apply OpR.negr);(case hx=>exact rfl);(case h=>omega))
|(exact oqF kC)
|exact opq))
|fail)
   exact ⟨(q+1,true,O++[⟨0,(q:Int),0,0 - v⟩]),rfl,rfl,⟨by dsimp only;omega,by simp;omega,by dsimp only;rw [List.append_assoc];exact h2⟩,by dsimp only;omega⟩
  ·
   rw [if_neg h0] at h2
   refine drvR ?_
   exact ⟨(q+1,tch,O),rfl,rfl,⟨by dsimp only;omega,by dsimp only;omega,h2⟩,by dsimp only;omega⟩
 ·
  rw [drop_end h3] at h2
  unfold chgsL at h2
  rw [List.append_nil] at h2
  subst h2
  exact drv
theorem rslack_no {m:Md} {p:Pln} {s:List Int} (h:PW m p) (hs:s.length≤140737488351232) (hn:inSlack m p s=false):Cl cfg 27 [.t (mdA m),.t (plA p),.t (intsA s)] [] (.ls 0) [.row false false 1 []]:=by
 have kv:=rpv_c h
 have hls:=intsE_len s
 cases hb:planB m p with
 | false=>
  rw [hb] at kv
  unfold plA at kv ⊢
  rw [mdA_eq,plC_eq] at kv ⊢
  refine Cl.of_body rfl Tryz.func27 rfl rfl rfl ?_
  exact drv
 | true=>
  have hlay:=model_lay (plan_iff.1 hb).model
  have kT:=rTotal_c h.md hlay
  rw [total_len hlay] at kT
  unfold inSlack at hn
  rw [hb,Bool.true_and] at hn
  rw [hb] at kv
  obtain ⟨n,hne⟩:∃ n,(rngs m.sorts m.tables true).length=n:=⟨_,rfl⟩
  rw [hne] at kT hn
  unfold plA at kv ⊢
  rw [mdA_eq] at kv kT ⊢
  rw [plC_eq] at kv ⊢
  refine Cl.of_body rfl Tryz.func27 rfl rfl rfl ?_
  by_cases hl:s.length=n
  ·
   rw [decide_eq_true hl,Bool.true_and] at hn
   refine drvR ?_
   refine EvL.ind (fun q:Nat=>[(8,.t (.int .i64 (q:Int)))]) (fun q=>q≤s.length∧(s.drop q).all inV=false) (fun q=>s.length - q) 0 rfl ⟨by omega,hn⟩ (fun q hq=>?_)
   obtain ⟨h1,h2⟩:=hq
   rcases Nat.lt_or_ge q s.length with h3|h3
   ·
    obtain ⟨v,hv⟩:=get_of_lt h3
    have hc:=intsE_get hv
    rw [all_hit inV hv] at h2
    by_cases hin : -1000000≤v∧v≤1000000
    ·
     obtain ⟨i0,i1⟩:=hin
     have e:inV v=true:=by unfold inV;rw [decide_eq_true i0,decide_eq_true i1];rfl
     rw [e,Bool.true_and] at h2
     repeat' (first
|(with_reducible first|apply EvK.seq|apply EvK.block)
|((with_reducible apply EvK.text);(try case hm=>exact rfl))
|(with_reducible first|apply EvK.skip|apply thenK_n|apply blockK_n)
|((with_reducible apply EvK.cond_t);(case hc=>exact rfl))
|((with_reducible apply EvK.cond_f);(case hc=>exact rfl))
|((with_reducible apply EvO.spd_t);(case hp=>exact fao))
|((with_reducible apply EvO.spd_f);(case hp=>exact fao))
|((with_reducible apply EvO.spd_yf);(case hp=>exact fao))
|(with_reducible apply EvO.nilT)
|((with_reducible apply EvO.gt0);(case hW=>exact rfl);(case hx=>exact opq))
|((with_reducible apply EvO.u0);(case hx=>exact opq))
|fail)
     exact ⟨q+1,rfl,rfl,⟨by omega,h2⟩,by omega⟩
    ·
     repeat' (first
|(with_reducible first|apply EvK.seq|apply EvK.block)
|((with_reducible apply EvK.text);(try case hm=>exact rfl))
|(with_reducible first|apply EvK.skip|apply EvK.ret|apply thenK_n|apply thenK_r|apply blockK_r)
|((with_reducible apply EvK.cond_t);(case hc=>exact rfl))
|((with_reducible apply EvO.spd_t);(case hp=>exact fao))
|((with_reducible apply EvO.spd) <;> intro hq)
|((with_reducible apply EvO.spd_yt);(case hp=>exact fao))
|(with_reducible apply EvO.nilT)
|((with_reducible apply EvO.gf);(case hW=>exact rfl))
|((with_reducible apply EvO.gt0);(case hW=>exact rfl);(case hx=>exact opq))
|((with_reducible apply EvO.u0);(case hx=>exact opq))
|fail)
     all_goals first
      | exact ⟨.inr rfl,rfl⟩
      | (exfalso;apply hin;constructor <;> omega)
   ·
    rw [alle _ h3] at h2
    cases h2
  ·
   exact drv
theorem rslack_c {m:Md} {p:Pln} {s:List Int} (h:PW m p) (hs:s.length≤140737488351232) (hn:inSlack m p s=true) (hfe:p.esc.length≤100000000):Cl cfg 27 [.t (mdA m),.t (plA p),.t (intsA s)] [] (.ls 0) [.row false false 1 (intsE (slackL m p s))]:=by
 have kv:=rpv_c h
 have hls:=intsE_len s
 have hlE:=esE_len p.esc
 have hlC:=cnE_len m.cons
 have h1e:=h.pl.esc
 have h1c:=h.md.cons
 unfold inSlack at hn
 rw [Bool.and_eq_true,Bool.and_eq_true,decide_eq_true_eq] at hn
 obtain ⟨hv,hl,ha⟩:=hn
 have hsb:=inV_all ha
 have hpl:=plan_iff.1 hv
 have hmv:=hpl.model
 have hlay:=model_lay hmv
 have kT:=rTotal_c h.md hlay
 rw [total_len hlay] at kT
 have hrw:=fun (x:Esc) (hx:x∈p.esc)=>hpl.row hx
 have hfw:=rngs_few hmv
 rw [hv] at kv
 obtain ⟨n,hne⟩:∃ n,(rngs m.sorts m.tables true).length=n:=⟨_,rfl⟩
 rw [hne] at kT hl hrw hfw
 have e0:slackL m p s=(p.esc.take p.esc.length).map fun x=>slackR s (rowOf m x):=by unfold slackL;rw [List.take_length]
 rw [e0]
 unfold plA at kv ⊢
 rw [mdA_eq] at kv kT ⊢
 rw [plC_eq] at kv ⊢
 refine Cl.of_body rfl Tryz.func27 rfl rfl rfl ?_
 refine drvR ?_
 refine EvL.ind (fun q:Nat=>[(8,.t (.int .i64 (q:Int)))]) (fun q=>q≤s.length) (fun q=>s.length - q) 0 rfl (by omega) (fun q h1=>?_)
 rcases Nat.lt_or_ge q s.length with h3|h3
 ·
  obtain ⟨v,hv⟩:=get_of_lt h3
  have hc:=intsE_get hv
  have hvb:=hsb v (List.mem_of_getElem? hv)
  exact drv
 ·
  refine drvR ?_
  refine EvL.indF (fun x:Nat×Bool=>[(7,.ls 2),(9,.t (.int .i64 (x.1:Int)))]) (fun x=>[.box false 30 (([intsA m.sorts,.arr (tbE m.tables),.arr (nmE m.fams),.arr (cnE m.cons),.arr (opE m.ops),.arr (acE m.acts),.arr (hdE m.hides)]:List AV).map .t),.box false 35 (([.arr (esE p.esc),.arr (lkE p.locks),.arr (mbE p.places),intsA p.need]:List AV).map .t),.row false x.2 1 (intsE ((p.esc.take x.1).map fun x=>slackR s (rowOf m x)))]) (fun x=>x.1≤p.esc.length) (fun x=>p.esc.length - x.1) (0,false) rfl rfl (by dsimp only;omega) (fun x hq=>?_)
  obtain ⟨q',tch⟩:=x
  dsimp only at hq ⊢
  rcases Nat.lt_or_ge q' p.esc.length with g3|g3
  ·
   obtain ⟨x,hx⟩:=get_of_lt g3
   have hc:=esE_get hx
   obtain ⟨⟨g1,g2⟩,_⟩:=hpl.esc x (List.mem_of_getElem? hx)
   obtain ⟨c,hcn⟩:=get_of_lt (xs:=m.cons) (k:=x.con.toNat) (by omega)
   have hcc:=cnE_get hcn
   have hr:=hrw x (List.mem_of_getElem? hx)
   have hsn:=slk_snoc (m:=m) (s:=s) hx
   rw [row_get hcn] at hr hsn
   have kV:=rValue_c (by omega) hl hsb hr
   have htl:=term_len (row_terms hr)
   have hb1:=row_bound hr
   have hb2:=valP_b hsb hr c.row.terms.length
   rw [← val_slack] at hsn
   rw [rwC_eq] at kV
   obtain ⟨v,hvv⟩:∃ v,valP s c.row c.row.terms.length=v:=⟨_,rfl⟩
   rw [hvv] at kV hb2 hsn
   have hlX:lenOk ((intsE ((p.esc.take q').map fun x=>slackR s (rowOf m x))).length+1) 8=true:=by
    rw [intsE_len,List.length_map,List.length_take]
    exact lenG8 (by omega)
   repeat' (first
|(with_reducible first|apply EvK.seq|apply EvK.block)
|((with_reducible apply EvK.text);(try case hm=>exact rfl))
|((with_reducible apply EvK.drawn);(case hm=>exact rfl))
|((with_reducible apply EvK.drawnF);(case hm=>exact rfl))
|(with_reducible first|apply EvK.skip|apply thenK_n)
|((with_reducible apply EvK.cond_t);(case hc=>exact rfl))
|((with_reducible apply EvO.spd_t);(case hp=>exact fao))
|(with_reducible first|apply EvO.nilT|apply EvO.nilB|apply EvOF.nilT)
|((with_reducible apply EvO.u);(case hx=>((with_reducible apply OpR.apr);(case hs=>exact fun _=>rfl);(case ha|ht=>exact rfl);(case hr=>first|(with_reducible exact rw0)|(with_reducible exact rw1)|(with_reducible exact rw2)|(with_reducible exact rw3)|(with_reducible exact rw4)|exact rfl);(case hx|hy|hn|hb|hok=>exact rfl);(case hlen=>exact hlX);(case hv=>exact hsn);(case hk=>exact kfr);(case hf=>exact leq))))
|((with_reducible apply EvOF.u);(case hfl=>kernel_rfl);(case hx=>exact opq))
|((with_reducible apply EvO.u0);(case hx=>first
|(exact oqF kV)
|exact opq))
|fail)
   exact ⟨(q'+1,true),rfl,rfl,by dsimp only;omega,by dsimp only;omega⟩
  ·
   obtain rfl:q'=p.esc.length:=by omega
   exact drv
end Go.Proofs.YtcpgmmlaimkojaaGreatDoor
