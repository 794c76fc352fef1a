/- Law 32: the values of the convergent cells,as the program finds them. No condition. -/
import Derived.Test.YtgbfedgghjcdcaaGreatDoorTO
import Derived.Test.YtgbfedgghjcdcaaGreatDoorOB
set_option linter.unusedSimpArgs false
set_option linter.unusedVariables false
set_option linter.unusedSectionVars false
namespace Go.Proofs.YtgbfedgghjcdcaaGreatDoor
open Go.RowKit
set_option maxRecDepth 100000
set_option maxHeartbeats 32000000
def vfn (t:Tb):List AV:=[.fn (.func 121) 0 [ofF],.fn (.func 126) 0 [ofF],.fn (.func 128) 0 [ofF,.tp [.int .i64 (initI t)]],.fn (.func 131) 0 [ofF,.tp [.int .i64 (initI t)]]]
theorem values_c (t:Tb):Cl cfg 76 [.t (.agg (tbC t))] [] (.t (.mp [.int .i64 2,.int .i64 3,.int .i64 4,.int .i64 5] (vfn t))) []:=⟨6,by kernel_rfl⟩
def findV (k:Int):Option (Option Nat):=findA (.int .i64) (.int .i64 k) [.int .i64 2,.int .i64 3,.int .i64 4,.int .i64 5] 0
theorem findV_2 {k:Int} (h:k=2):findV k=some (some 0):=by subst h;rfl
theorem findV_3 {k:Int} (h:k=3):findV k=some (some 1):=by subst h;rfl
theorem findV_4 {k:Int} (h:k=4):findV k=some (some 2):=by subst h;rfl
theorem findV_5 {k:Int} (h:k=5):findV k=some (some 3):=by subst h;rfl
def valF (m:Md) (l:List Ev) (T:List Tb):List (List Int):=T.mapIdx fun i t=>valsT t (wrs m l (i:Int))
theorem valF_snoc (m:Md) (l:List Ev) (T:List Tb) (t:Tb):valF m l (T++[t])=valF m l T++[valsT t (wrs m l (T.length:Int))]:=by
 unfold valF
 rw [List.mapIdx_append]
 simp
theorem valF_len (m:Md) (l:List Ev) (T:List Tb):(valF m l T).length=T.length:=by unfold valF;simp
theorem mrgP_snoc {S:List Int} {L:List Tb} {q k:Nat} {t:Tb}:mrgP S L q k t++[t]=mrgP S L q (k+1) t:=by unfold mrgP;rw [repl_snoc,List.append_assoc]
theorem mrgP_0 {S:List Int} {L:List Tb} {q:Nat} {t:Tb}:mrgP S L q 0 t=(L.take q).flatMap (mrgT S):=by unfold mrgP;simp
theorem mrgP_end {S:List Int} {L:List Tb} {q k:Nat} {t:Tb} (ht:L[q]?=some t) (hs:strictK t.kind=false) (hk:(numberS S t.cols).toNat=k):mrgP S L q k t=(L.take (q+1)).flatMap (mrgT S):=by
 unfold mrgP
 rw [flat_snoc ht,mrgT,if_neg (by rw [hs];decide),hk]
theorem mrg_no {S:List Int} {L:List Tb} {q:Nat} {t:Tb} (ht:L[q]?=some t) (hs:strictK t.kind=true):(L.take (q+1)).flatMap (mrgT S)=(L.take q).flatMap (mrgT S):=by
 rw [flat_snoc ht,mrgT,if_pos hs,List.append_nil]
theorem mrgT_le (S:List Int):∀ L:List Tb,(L.flatMap (mrgT S)).length≤216 * L.length
 | []=>by simp
 | t::L=>by
  have hb:=numberS_bnd S t.cols
  have ih:=mrgT_le S L
  rw [List.flatMap_cons,List.length_append,List.length_cons]
  have e:(mrgT S t).length≤216:=by
   unfold mrgT
   split
   ·simp
   ·rw [List.length_replicate];omega
  omega
theorem wrs_L {m:Md} {l:List Ev} (hl:l.length≤1000) (hp:∀ e∈l,e.past.length≤1000) (c:Int):WrsL (wrs m l c) where
 len:=by
  unfold wrs
  exact Nat.le_trans (List.length_filterMap_le _ _) hl
 past:=fun w hw=>hp _ (mem_wrs.1 hw).1
theorem clksE_app (A:List (List Int)) (v:List Int):clksE A++[[intsA v]]=clksE (A++[v]):=by unfold clksE;rw [List.map_append];rfl
theorem mdl_ups {m:Md} (hS:Small m):∀ a∈m.acts,a.eff.ups.length≤1000:=fun a ha=>by
 have:=hS.few a ha
 unfold effFew at this
 simp only [Bool.and_eq_true,decide_eq_true_eq] at this
 omega
theorem valK2_c {t:Tb} (hk:t.kind=2):∀ W,WrsL W→Cl cfg 121 [.t (.arr (wrE W)),.t ofF] [] (.t (intsA (valsT t W))) []:=fun W h=>by
 have e:valsT t W=bitI ((ofK W 0).any fun w=>!seenW w W 1):=by unfold valsT;rw [if_pos hk]
 rw [e]
 exact val2_c h
theorem valK3_c {t:Tb} (hk:t.kind=3):∀ W,WrsL W→Cl cfg 126 [.t (.arr (wrE W)),.t ofF] [] (.t (intsA (valsT t W))) []:=fun W h=>by
 have e:valsT t W=bitI (decide (ofK W 0≠[]) && !(ofK W 1).any fun w=>!seenW w W 0):=by unfold valsT;rw [if_neg (by omega),if_pos hk]
 rw [e]
 exact val3_c h
theorem valK4_c {t:Tb} (hk:t.kind=4):∀ W,WrsL W→Cl cfg 128 [.t (.arr (wrE W)),.t ofF,.t (.tp [.int .i64 (initI t)])] [] (.t (intsA (valsT t W))) []:=fun W h=>by
 have e:valsT t W=(match ofK W 2 with|[]=>[initI t]|w::r=>[(maxW w r).u.value]):=by unfold valsT;rw [if_neg (by omega),if_neg (by omega),if_pos hk];cases ofK W 2 <;> rfl
 rw [e]
 exact val4_c h
theorem valK5_c {t:Tb} (hk:t.kind=5):∀ W,WrsL W→Cl cfg 131 [.t (.arr (wrE W)),.t ofF,.t (.tp [.int .i64 (initI t)])] [] (.t (intsA (valsT t W))) []:=fun W h=>by
 have e:valsT t W=if liveV W=[] then [initI t] else dedupI (sortI (liveV W)):=by unfold valsT;rw [if_neg (by omega),if_neg (by omega),if_neg (by omega)]
 rw [e]
 exact val5_c h
theorem evalues_n {m:Md} {l:List Ev} (hm:MdL m) (hl:l.length≤140737488351232) (hp:∀ e∈l,e.past.length≤140737488351232) (hn:allV m l=false):Cl cfg 26 [.t (mdA m),.t (.arr (evsE l))] [] (.t (.tup [.arr [],.int .i64 1])) []:=by
 have kv:=eallv_c hm hl hp
 rw [hn] at kv
 rw [mdA_eq] at kv ⊢
 refine Cl.of_bodyT rfl Tryz.func26 rfl rfl rfl ?_
 repeat' (first
|(with_reducible apply EvK.seq)
|((with_reducible apply EvK.text);(try case hm=>exact rfl))
|(with_reducible first|apply EvK.ret|apply thenK_r)
|((with_reducible apply EvK.cond_t);(case hc=>exact rfl))
|(with_reducible apply EvO.nilT)
|((with_reducible apply EvO.u0);(case hx=>first
|(exact oqF kv)
|exact opq))
|fail)
 exact ⟨.inr rfl,rfl⟩
theorem evalues_c {m:Md} {l:List Ev} (hS:Small m) (hl:l.length≤1000) (hp:∀ e∈l,e.past.length≤1000) (hva:allV m l=true):Cl cfg 26 [.t (mdA m),.t (.arr (evsE l))] [] (.t (.tup [.arr (clksE (valuesF m l)),.int .i64 0])) []:=by
 have hm:=hS.len
 have hv:=model_lay hS.ok
 have hlL:=tbE_len m.tables
 have hfew:=lay_few hv
 have hsd:=lay_sound hv
 have kv:=eallv_c (l:=l) hm (by omega) fun e he=>Nat.le_trans (hp e he) (by omega)
 rw [hva] at kv
 have kw:=fun c:Int=>ewrites_c (c:=c) hm hl (fun e he hk=>valid_act (List.all_eq_true.1 hva e he) hk) (mdl_ups hS)
 have ksz:=fun (t:Tb) h1 h2=>esize_c (t:=t) hm hsd h1 h2
 have hmr:=fun q=>mrgT_le m.sorts (m.tables.take q)
 have hres:valuesF m l=valF m l (m.tables.flatMap (mrgT m.sorts)):=rfl
 rw [hres]
 rw [mdA_eq] at kv kw ksz ⊢
 refine Cl.of_bodyT rfl Tryz.func26 rfl rfl rfl ?_
 repeat' (first
|(with_reducible first|apply EvK.seq|apply EvK.block)
|((with_reducible apply EvK.text);(try case hm=>exact rfl))
|(with_reducible first|apply EvK.skip|apply thenK_n)
|((with_reducible apply EvK.cond_f);(case hc=>exact rfl))
|(with_reducible apply EvO.nilT)
|((with_reducible apply EvO.u0);(case hx=>first
|(exact oqF kv)
|exact opq))
|fail)
 apply EvK.loopV
 case ho=>exact rfl
 case hp=>exact rfl
 case hl=>exact rfl
 case hs=>exact slt
 refine EvL.indF (fun x:Nat×Bool=>[(6,.ls 1),(17,.t (.int .i64 (x.1:Int)))]) (fun x=>[.box false 30 ((mdC m).map .t),.row false x.2 1 (clksE (valF m l ((m.tables.take x.1).flatMap (mrgT m.sorts))))]) (fun x=>x.1≤m.tables.length) (fun x=>m.tables.length - x.1) (0,false) rfl rfl (by simp) (fun x hq=>?_)
 obtain ⟨q,tch⟩:=x
 dsimp only at hq ⊢
 rcases Nat.lt_or_ge q m.tables.length with h3|h3
 ·
  obtain ⟨t,ht⟩:=get_of_lt h3
  have hc:=tbE_get ht
  obtain ⟨c1,c2,c3⟩:=lay_cols hv ht
  have kn:=ksz t c3 c1
  have kst:=estrict_c t
  have kvs:=values_c t
  have hbN:=numberS_bnd m.sorts t.cols
  have hend:=fun k=>mrgP_end (S:=m.sorts) (k:=k) ht
  have hmq:=hmr q
  have hlq:(m.tables.take q).length=q:=by simp;omega
  rw [hlq] at hmq
  have hkr:0≤t.kind∧t.kind≤5:=(tabOk_iff.1 (lay_tab hv ht)).2.2.1
  have e1:tbC t=[.str t.name,.int .i64 t.kind,intsA t.cols,.int .i64 t.lo,.int .i64 t.hi,.int .i64 t.first]:=rfl
  rw [e1] at kn kst kvs
  cases hst:strictK t.kind with
  | true=>
   rw [hst] at kst
   have hno:=mrg_no (S:=m.sorts) ht hst
   repeat' (first
|(with_reducible first|apply EvK.seq|apply EvK.block)
|((with_reducible apply EvK.text);(try case hm=>exact rfl))
|(with_reducible first|apply EvK.skip|apply EvK.exit|apply thenK_n|apply thenK_e|apply blockK_h)
|((with_reducible apply EvK.cond_t);(case hc=>exact rfl))
|((with_reducible apply EvO.spd_t);(case hp=>exact fao))
|(with_reducible apply EvO.nilT)
|((with_reducible apply EvO.u0);(case hx=>first
|(exact oqF kst)
|exact opq))
|fail)
   exact ⟨(q+1,tch),rfl,by dsimp only;rw [hno];rfl,by dsimp only;omega,by dsimp only;omega⟩
  | false=>
   rw [hst] at kst
   have hend:=hend _ hst rfl
   obtain ⟨N,hN⟩:∃ N,(numberS m.sorts t.cols).toNat=N:=⟨_,rfl⟩
   have hNN:numberS m.sorts t.cols=(N:Int):=by omega
   rw [hNN] at kn
   rw [hN] at hend
   have hk4:t.kind=2∨t.kind=3∨t.kind=4∨t.kind=5:=by
    unfold strictK at hst
    simp only [Bool.or_eq_false_iff,decide_eq_false_iff_not] at hst
    omega
   rcases hk4 with hk|hk|hk|hk
   ·
    have kf:=valK2_c hk
    unfold ofF at kf
    repeat' (first
|(with_reducible first|apply EvK.seq|apply EvK.block)
|((with_reducible apply EvK.text);(try case hm=>exact rfl))
|((with_reducible apply EvK.drawn);(case hm=>exact rfl))
|(with_reducible first|apply EvK.skip|apply thenK_n)
|((with_reducible apply EvK.cond_t);(case hc=>exact rfl))
|((with_reducible apply EvK.cond_f);(case hc=>exact rfl))
|((with_reducible apply EvO.spd_t);(case hp=>exact fao))
|(with_reducible apply EvO.nilT)
|((with_reducible apply EvO.u0);(case hx=>first
|((with_reducible apply OpR.lki);(case hm|hk|ho=>exact rfl);(case hf=>exact findV_2 hk);(case hz=>exact rfl))
|(exact oqF kst)
|(exact oqN kvs)
|(exact oqF kn)
|exact opq))
|fail)
    apply EvK.loopV
    case ho=>exact rfl
    case hp=>exact rfl
    case hl=>exact rfl
    case hs=>exact slt
    refine EvL.indF (fun x:Nat×Bool=>[(6,.ls 1),(31,.t (.int .i64 (x.1:Int)))]) (fun x=>[.box false 30 ((mdC m).map .t),.row false x.2 1 (clksE (valF m l (mrgP m.sorts m.tables q x.1 t))),.box false 69 (([.str t.name,.int .i64 t.kind,intsA t.cols,.int .i64 t.lo,.int .i64 t.hi,.int .i64 t.first]:List AV).map .t)]) (fun x=>x.1≤N) (fun x=>N - x.1) (0,tch) rfl (by dsimp only;rw [mrgP_0]) (by simp) (fun x hx=>?_)
    obtain ⟨k,tc⟩:=x
    dsimp only at hx ⊢
    rcases Nat.lt_or_ge k N with g3|g3
    ·
     have hln:(mrgP m.sorts m.tables q k t).length≤4000:=by
      unfold mrgP
      rw [List.length_append,List.length_replicate]
      omega
     have hsn:=valF_snoc m l (mrgP m.sorts m.tables q k t) t
     rw [mrgP_snoc] at hsn
     have hvl:=valF_len m l (mrgP m.sorts m.tables q k t)
     have kww:=kw ((mrgP m.sorts m.tables q k t).length:Int)
     have kff:=kf _ (wrs_L (m:=m) hl hp ((mrgP m.sorts m.tables q k t).length:Int))
     obtain ⟨A,hA⟩:∃ A,valF m l (mrgP m.sorts m.tables q k t)=A:=⟨_,rfl⟩
     obtain ⟨v,hvv⟩:∃ v,valsT t (wrs m l ((mrgP m.sorts m.tables q k t).length:Int))=v:=⟨_,rfl⟩
     rw [hA] at hsn hvl ⊢
     rw [hvv] at hsn kff
     rw [← hvl] at hln kww kff
     have hlc:=clksE_len A
     have hap:=clksE_app A v
     rw [← hsn] at hap
     have hlX:lenOk ((clksE A).length+1) 24=true:=by rw [hlc];simp [lenOk];omega
     repeat' (first
|(with_reducible first|apply EvK.seq|apply EvK.block)
|((with_reducible apply EvK.text);(try case hm=>exact rfl))
|(with_reducible first|apply EvK.skip|apply thenK_n)
|((with_reducible apply EvK.cond_t);(case hc=>exact rfl))
|((with_reducible apply EvO.spd_t);(case hp=>exact fao))
|(with_reducible first|apply EvO.nilT|apply EvO.nilB)
|((with_reducible apply EvO.u);(case hx=>((with_reducible apply OpR.apr);(case hs=>exact fun _=>rfl);(case ha|ht=>exact rfl);(case hr=>first|(with_reducible exact rw0)|(with_reducible exact rw1)|(with_reducible exact rw2)|(with_reducible exact rw3)|(with_reducible exact rw4)|exact rfl);(case hx|hy|hn|hb|hok=>exact rfl);(case hlen=>exact hlX);(case hv=>exact hap);(case hk=>exact kfr);(case hf=>exact leq))))
|((with_reducible apply EvO.u0);(case hx=>first
|(exact oqN kww)
|(exact oqN kff)
|exact opq))
|fail)
     exact ⟨(k+1,true),rfl,rfl,by dsimp only;omega,by dsimp only;omega⟩
    ·
     obtain rfl:k=N:=by omega
     rw [hend]
     repeat' (first
|(with_reducible apply EvK.seq)
|((with_reducible apply EvK.text);(try case hm=>exact rfl))
|(with_reducible first|apply EvK.exit|apply thenK_n|apply thenK_e|apply blockK_n|apply blockK_h)
|((with_reducible apply EvK.cond_f);(case hc=>exact rfl))
|((with_reducible apply EvO.spd_f);(case hp=>exact fao))
|(with_reducible apply EvO.nilT)
|((with_reducible apply EvO.u0);(case hx=>exact opq))
|fail)
     exact ⟨(q+1,tc),rfl,rfl,by dsimp only;omega,by dsimp only;omega⟩
   ·
    have kf:=valK3_c hk
    unfold ofF at kf
    repeat' (first
|(with_reducible first|apply EvK.seq|apply EvK.block)
|((with_reducible apply EvK.text);(try case hm=>exact rfl))
|((with_reducible apply EvK.drawn);(case hm=>exact rfl))
|(with_reducible first|apply EvK.skip|apply thenK_n)
|((with_reducible apply EvK.cond_t);(case hc=>exact rfl))
|((with_reducible apply EvK.cond_f);(case hc=>exact rfl))
|((with_reducible apply EvO.spd_t);(case hp=>exact fao))
|(with_reducible apply EvO.nilT)
|((with_reducible apply EvO.u0);(case hx=>first
|((with_reducible apply OpR.lki);(case hm|hk|ho=>exact rfl);(case hf=>exact findV_3 hk);(case hz=>exact rfl))
|(exact oqF kst)
|(exact oqN kvs)
|(exact oqF kn)
|exact opq))
|fail)
    apply EvK.loopV
    case ho=>exact rfl
    case hp=>exact rfl
    case hl=>exact rfl
    case hs=>exact slt
    refine EvL.indF (fun x:Nat×Bool=>[(6,.ls 1),(31,.t (.int .i64 (x.1:Int)))]) (fun x=>[.box false 30 ((mdC m).map .t),.row false x.2 1 (clksE (valF m l (mrgP m.sorts m.tables q x.1 t))),.box false 69 (([.str t.name,.int .i64 t.kind,intsA t.cols,.int .i64 t.lo,.int .i64 t.hi,.int .i64 t.first]:List AV).map .t)]) (fun x=>x.1≤N) (fun x=>N - x.1) (0,tch) rfl (by dsimp only;rw [mrgP_0]) (by simp) (fun x hx=>?_)
    obtain ⟨k,tc⟩:=x
    dsimp only at hx ⊢
    rcases Nat.lt_or_ge k N with g3|g3
    ·
     have hln:(mrgP m.sorts m.tables q k t).length≤4000:=by
      unfold mrgP
      rw [List.length_append,List.length_replicate]
      omega
     have hsn:=valF_snoc m l (mrgP m.sorts m.tables q k t) t
     rw [mrgP_snoc] at hsn
     have hvl:=valF_len m l (mrgP m.sorts m.tables q k t)
     have kww:=kw ((mrgP m.sorts m.tables q k t).length:Int)
     have kff:=kf _ (wrs_L (m:=m) hl hp ((mrgP m.sorts m.tables q k t).length:Int))
     obtain ⟨A,hA⟩:∃ A,valF m l (mrgP m.sorts m.tables q k t)=A:=⟨_,rfl⟩
     obtain ⟨v,hvv⟩:∃ v,valsT t (wrs m l ((mrgP m.sorts m.tables q k t).length:Int))=v:=⟨_,rfl⟩
     rw [hA] at hsn hvl ⊢
     rw [hvv] at hsn kff
     rw [← hvl] at hln kww kff
     have hlc:=clksE_len A
     have hap:=clksE_app A v
     rw [← hsn] at hap
     have hlX:lenOk ((clksE A).length+1) 24=true:=by rw [hlc];simp [lenOk];omega
     repeat' (first
|(with_reducible first|apply EvK.seq|apply EvK.block)
|((with_reducible apply EvK.text);(try case hm=>exact rfl))
|(with_reducible first|apply EvK.skip|apply thenK_n)
|((with_reducible apply EvK.cond_t);(case hc=>exact rfl))
|((with_reducible apply EvO.spd_t);(case hp=>exact fao))
|(with_reducible first|apply EvO.nilT|apply EvO.nilB)
|((with_reducible apply EvO.u);(case hx=>((with_reducible apply OpR.apr);(case hs=>exact fun _=>rfl);(case ha|ht=>exact rfl);(case hr=>first|(with_reducible exact rw0)|(with_reducible exact rw1)|(with_reducible exact rw2)|(with_reducible exact rw3)|(with_reducible exact rw4)|exact rfl);(case hx|hy|hn|hb|hok=>exact rfl);(case hlen=>exact hlX);(case hv=>exact hap);(case hk=>exact kfr);(case hf=>exact leq))))
|((with_reducible apply EvO.u0);(case hx=>first
|(exact oqN kww)
|(exact oqN kff)
|exact opq))
|fail)
     exact ⟨(k+1,true),rfl,rfl,by dsimp only;omega,by dsimp only;omega⟩
    ·
     obtain rfl:k=N:=by omega
     rw [hend]
     repeat' (first
|(with_reducible apply EvK.seq)
|((with_reducible apply EvK.text);(try case hm=>exact rfl))
|(with_reducible first|apply EvK.exit|apply thenK_n|apply thenK_e|apply blockK_n|apply blockK_h)
|((with_reducible apply EvK.cond_f);(case hc=>exact rfl))
|((with_reducible apply EvO.spd_f);(case hp=>exact fao))
|(with_reducible apply EvO.nilT)
|((with_reducible apply EvO.u0);(case hx=>exact opq))
|fail)
     exact ⟨(q+1,tc),rfl,rfl,by dsimp only;omega,by dsimp only;omega⟩
   ·
    have kf:=valK4_c hk
    unfold ofF at kf
    repeat' (first
|(with_reducible first|apply EvK.seq|apply EvK.block)
|((with_reducible apply EvK.text);(try case hm=>exact rfl))
|((with_reducible apply EvK.drawn);(case hm=>exact rfl))
|(with_reducible first|apply EvK.skip|apply thenK_n)
|((with_reducible apply EvK.cond_t);(case hc=>exact rfl))
|((with_reducible apply EvK.cond_f);(case hc=>exact rfl))
|((with_reducible apply EvO.spd_t);(case hp=>exact fao))
|(with_reducible apply EvO.nilT)
|((with_reducible apply EvO.u0);(case hx=>first
|((with_reducible apply OpR.lki);(case hm|hk|ho=>exact rfl);(case hf=>exact findV_4 hk);(case hz=>exact rfl))
|(exact oqF kst)
|(exact oqN kvs)
|(exact oqF kn)
|exact opq))
|fail)
    apply EvK.loopV
    case ho=>exact rfl
    case hp=>exact rfl
    case hl=>exact rfl
    case hs=>exact slt
    refine EvL.indF (fun x:Nat×Bool=>[(6,.ls 1),(31,.t (.int .i64 (x.1:Int)))]) (fun x=>[.box false 30 ((mdC m).map .t),.row false x.2 1 (clksE (valF m l (mrgP m.sorts m.tables q x.1 t))),.box false 69 (([.str t.name,.int .i64 t.kind,intsA t.cols,.int .i64 t.lo,.int .i64 t.hi,.int .i64 t.first]:List AV).map .t)]) (fun x=>x.1≤N) (fun x=>N - x.1) (0,tch) rfl (by dsimp only;rw [mrgP_0]) (by simp) (fun x hx=>?_)
    obtain ⟨k,tc⟩:=x
    dsimp only at hx ⊢
    rcases Nat.lt_or_ge k N with g3|g3
    ·
     have hln:(mrgP m.sorts m.tables q k t).length≤4000:=by
      unfold mrgP
      rw [List.length_append,List.length_replicate]
      omega
     have hsn:=valF_snoc m l (mrgP m.sorts m.tables q k t) t
     rw [mrgP_snoc] at hsn
     have hvl:=valF_len m l (mrgP m.sorts m.tables q k t)
     have kww:=kw ((mrgP m.sorts m.tables q k t).length:Int)
     have kff:=kf _ (wrs_L (m:=m) hl hp ((mrgP m.sorts m.tables q k t).length:Int))
     obtain ⟨A,hA⟩:∃ A,valF m l (mrgP m.sorts m.tables q k t)=A:=⟨_,rfl⟩
     obtain ⟨v,hvv⟩:∃ v,valsT t (wrs m l ((mrgP m.sorts m.tables q k t).length:Int))=v:=⟨_,rfl⟩
     rw [hA] at hsn hvl ⊢
     rw [hvv] at hsn kff
     rw [← hvl] at hln kww kff
     have hlc:=clksE_len A
     have hap:=clksE_app A v
     rw [← hsn] at hap
     have hlX:lenOk ((clksE A).length+1) 24=true:=by rw [hlc];simp [lenOk];omega
     repeat' (first
|(with_reducible first|apply EvK.seq|apply EvK.block)
|((with_reducible apply EvK.text);(try case hm=>exact rfl))
|(with_reducible first|apply EvK.skip|apply thenK_n)
|((with_reducible apply EvK.cond_t);(case hc=>exact rfl))
|((with_reducible apply EvO.spd_t);(case hp=>exact fao))
|(with_reducible first|apply EvO.nilT|apply EvO.nilB)
|((with_reducible apply EvO.u);(case hx=>((with_reducible apply OpR.apr);(case hs=>exact fun _=>rfl);(case ha|ht=>exact rfl);(case hr=>first|(with_reducible exact rw0)|(with_reducible exact rw1)|(with_reducible exact rw2)|(with_reducible exact rw3)|(with_reducible exact rw4)|exact rfl);(case hx|hy|hn|hb|hok=>exact rfl);(case hlen=>exact hlX);(case hv=>exact hap);(case hk=>exact kfr);(case hf=>exact leq))))
|((with_reducible apply EvO.u0);(case hx=>first
|(exact oqN kww)
|(exact oqN kff)
|exact opq))
|fail)
     exact ⟨(k+1,true),rfl,rfl,by dsimp only;omega,by dsimp only;omega⟩
    ·
     obtain rfl:k=N:=by omega
     rw [hend]
     repeat' (first
|(with_reducible apply EvK.seq)
|((with_reducible apply EvK.text);(try case hm=>exact rfl))
|(with_reducible first|apply EvK.exit|apply thenK_n|apply thenK_e|apply blockK_n|apply blockK_h)
|((with_reducible apply EvK.cond_f);(case hc=>exact rfl))
|((with_reducible apply EvO.spd_f);(case hp=>exact fao))
|(with_reducible apply EvO.nilT)
|((with_reducible apply EvO.u0);(case hx=>exact opq))
|fail)
     exact ⟨(q+1,tc),rfl,rfl,by dsimp only;omega,by dsimp only;omega⟩
   ·
    have kf:=valK5_c hk
    unfold ofF at kf
    repeat' (first
|(with_reducible first|apply EvK.seq|apply EvK.block)
|((with_reducible apply EvK.text);(try case hm=>exact rfl))
|((with_reducible apply EvK.drawn);(case hm=>exact rfl))
|(with_reducible first|apply EvK.skip|apply thenK_n)
|((with_reducible apply EvK.cond_t);(case hc=>exact rfl))
|((with_reducible apply EvK.cond_f);(case hc=>exact rfl))
|((with_reducible apply EvO.spd_t);(case hp=>exact fao))
|(with_reducible apply EvO.nilT)
|((with_reducible apply EvO.u0);(case hx=>first
|((with_reducible apply OpR.lki);(case hm|hk|ho=>exact rfl);(case hf=>exact findV_5 hk);(case hz=>exact rfl))
|(exact oqF kst)
|(exact oqN kvs)
|(exact oqF kn)
|exact opq))
|fail)
    apply EvK.loopV
    case ho=>exact rfl
    case hp=>exact rfl
    case hl=>exact rfl
    case hs=>exact slt
    refine EvL.indF (fun x:Nat×Bool=>[(6,.ls 1),(31,.t (.int .i64 (x.1:Int)))]) (fun x=>[.box false 30 ((mdC m).map .t),.row false x.2 1 (clksE (valF m l (mrgP m.sorts m.tables q x.1 t))),.box false 69 (([.str t.name,.int .i64 t.kind,intsA t.cols,.int .i64 t.lo,.int .i64 t.hi,.int .i64 t.first]:List AV).map .t)]) (fun x=>x.1≤N) (fun x=>N - x.1) (0,tch) rfl (by dsimp only;rw [mrgP_0]) (by simp) (fun x hx=>?_)
    obtain ⟨k,tc⟩:=x
    dsimp only at hx ⊢
    rcases Nat.lt_or_ge k N with g3|g3
    ·
     have hln:(mrgP m.sorts m.tables q k t).length≤4000:=by
      unfold mrgP
      rw [List.length_append,List.length_replicate]
      omega
     have hsn:=valF_snoc m l (mrgP m.sorts m.tables q k t) t
     rw [mrgP_snoc] at hsn
     have hvl:=valF_len m l (mrgP m.sorts m.tables q k t)
     have kww:=kw ((mrgP m.sorts m.tables q k t).length:Int)
     have kff:=kf _ (wrs_L (m:=m) hl hp ((mrgP m.sorts m.tables q k t).length:Int))
     obtain ⟨A,hA⟩:∃ A,valF m l (mrgP m.sorts m.tables q k t)=A:=⟨_,rfl⟩
     obtain ⟨v,hvv⟩:∃ v,valsT t (wrs m l ((mrgP m.sorts m.tables q k t).length:Int))=v:=⟨_,rfl⟩
     rw [hA] at hsn hvl ⊢
     rw [hvv] at hsn kff
     rw [← hvl] at hln kww kff
     have hlc:=clksE_len A
     have hap:=clksE_app A v
     rw [← hsn] at hap
     have hlX:lenOk ((clksE A).length+1) 24=true:=by rw [hlc];simp [lenOk];omega
     repeat' (first
|(with_reducible first|apply EvK.seq|apply EvK.block)
|((with_reducible apply EvK.text);(try case hm=>exact rfl))
|(with_reducible first|apply EvK.skip|apply thenK_n)
|((with_reducible apply EvK.cond_t);(case hc=>exact rfl))
|((with_reducible apply EvO.spd_t);(case hp=>exact fao))
|(with_reducible first|apply EvO.nilT|apply EvO.nilB)
|((with_reducible apply EvO.u);(case hx=>((with_reducible apply OpR.apr);(case hs=>exact fun _=>rfl);(case ha|ht=>exact rfl);(case hr=>first|(with_reducible exact rw0)|(with_reducible exact rw1)|(with_reducible exact rw2)|(with_reducible exact rw3)|(with_reducible exact rw4)|exact rfl);(case hx|hy|hn|hb|hok=>exact rfl);(case hlen=>exact hlX);(case hv=>exact hap);(case hk=>exact kfr);(case hf=>exact leq))))
|((with_reducible apply EvO.u0);(case hx=>first
|(exact oqN kww)
|(exact oqN kff)
|exact opq))
|fail)
     exact ⟨(k+1,true),rfl,rfl,by dsimp only;omega,by dsimp only;omega⟩
    ·
     obtain rfl:k=N:=by omega
     rw [hend]
     repeat' (first
|(with_reducible apply EvK.seq)
|((with_reducible apply EvK.text);(try case hm=>exact rfl))
|(with_reducible first|apply EvK.exit|apply thenK_n|apply thenK_e|apply blockK_n|apply blockK_h)
|((with_reducible apply EvK.cond_f);(case hc=>exact rfl))
|((with_reducible apply EvO.spd_f);(case hp=>exact fao))
|(with_reducible apply EvO.nilT)
|((with_reducible apply EvO.u0);(case hx=>exact opq))
|fail)
     exact ⟨(q+1,tc),rfl,rfl,by dsimp only;omega,by dsimp only;omega⟩
 ·
  rw [List.take_of_length_le h3]
  repeat' (first
|(with_reducible apply EvK.seq)
|((with_reducible apply EvK.text);(try case hm=>exact rfl))
|(with_reducible first|apply EvK.exit|apply EvK.ret|apply thenK_n|apply thenK_e|apply blockK_h)
|((with_reducible apply EvK.cond_f);(case hc=>exact rfl))
|((with_reducible apply EvO.spd_f);(case hp=>exact fao))
|(with_reducible apply EvO.nilT)
|((with_reducible apply EvO.u0);(case hx=>exact opq))
|fail)
  exact ⟨.inr rfl,rfl⟩
end Go.Proofs.YtgbfedgghjcdcaaGreatDoor
