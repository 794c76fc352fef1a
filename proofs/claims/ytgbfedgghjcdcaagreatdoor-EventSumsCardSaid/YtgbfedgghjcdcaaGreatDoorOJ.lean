/- Law 32: EventSums. No condition but sizes. -/
import Derived.Test.YtgbfedgghjcdcaaGreatDoorOI
import Derived.Test.YtgbfedgghjcdcaaGreatDoorTKC
import Derived.Test.YtgbfedgghjcdcaaGreatDoorNK
set_option linter.unusedSimpArgs false
set_option linter.unusedVariables false
set_option linter.unusedSectionVars false
namespace Go.Proofs.YtgbfedgghjcdcaaGreatDoor
open Go.RowKit
set_option maxRecDepth 100000
set_option maxHeartbeats 32000000
theorem sortI_len (l:List Int):(sortI l).length=l.length:=List.length_mergeSort _
theorem dedupI_le:∀ l:List Int,(dedupI l).length≤l.length
 | []=>by simp [dedupI]
 | [x]=>by simp [dedupI]
 | x::y::l=>by
  have:=dedupI_le (y::l)
  rw [dedupI]
  split
  ·simp at this ⊢;omega
  ·simp at this ⊢;omega
theorem valsT_len (t:Tb) (W:List Wr):(valsT t W).length≤W.length+1:=by
 unfold valsT
 have hb:∀ b,(bitI b).length=1:=fun b=>by cases b <;> rfl
 split
 ·rw [hb];omega
 ·split
  ·rw [hb];omega
  ·split
   ·split <;> simp
   ·split
    ·simp
    ·refine Nat.le_trans (dedupI_le _) ?_
     rw [sortI_len]
     unfold liveV ofK
     rw [List.length_map]
     refine Nat.le_trans (List.length_filter_le _ _) (Nat.le_trans (List.length_filter_le _ _) (by omega))
theorem valF_in {m:Md} {l:List Ev} (hl:l.length≤1000) (T:List Tb):∀ x∈valF m l T,x.length≤140737488351232:=fun x hx=>by
 unfold valF at hx
 obtain ⟨i,hi,rfl⟩:=List.mem_mapIdx.1 hx
 refine Nat.le_trans (valsT_len _ _) ?_
 have:(wrs m l (i:Int)).length≤l.length:=by unfold wrs;exact List.length_filterMap_le _ _
 omega
theorem okev (l:List Ev):okSz 13 (evsE l)=true:=by
 cases l <;> rfl
theorem takeev (l:List Ev) (k:Nat):(evsE l).take k=evsE (l.take k):=by unfold evsE;rw [List.map_take]
theorem dropev (l:List Ev) (k:Nat):(evsE l).drop k=evsE (l.drop k):=by unfold evsE;rw [List.map_drop]
theorem allV_rev (m:Md) (l:List Ev):allV m l.reverse=allV m l:=by unfold allV;rw [List.all_reverse]
theorem allV_take {m:Md} {l:List Ev} (h:allV m l=true) (k:Nat):allV m (l.take k)=true:=List.all_eq_true.2 fun e he=>List.all_eq_true.1 h e (List.mem_of_mem_take he)
theorem allV_drop {m:Md} {l:List Ev} (h:allV m l=true) (k:Nat):allV m (l.drop k)=true:=List.all_eq_true.2 fun e he=>List.all_eq_true.1 h e (List.mem_of_mem_drop he)
theorem estate_a {m:Md} {l:List Ev} {c:List Int} (hS:Small m) (hl:l.length≤1000) (hp:∀ e∈l,e.past.length≤1000) (hcl:c.length≤1000) (hlc:(c.length:Int)=cntOf m.sorts true m.tables) (hva:allV m l=true):Cl cfg 34 [.t (mdA m),.t (intsA c),.t (.arr (evsE l))] [] (.t (.tup [intsA (stateF m c l),.int .i64 0])) []:=by
 have hp':∀ e∈l,e.past.length≤140737488351232:=fun e he=>Nat.le_trans (hp e he) (by omega)
 cases c with
 | nil=>exact estate_0 hS hl hp' (by simpa using hlc) hva
 | cons x c=>exact estate_c hS hl hp' hcl (by simp) hlc hva
theorem both_c {m:Md} {l:List Ev} {c:List Int} (hS:Small m) (hl:l.length≤1000) (hp:∀ e∈l,e.past.length≤1000) (hcl:c.length≤1000) (hap:apartB l=true) :
  ∃ (a:List Int) (e:Int) (V:List (List Int)) (f:Int),a.length≤1000∧V.length≤10000∧(∀ x∈V,x.length≤140737488351232)∧
   Cl cfg 34 [.t (mdA m),.t (intsA c),.t (.arr (evsE l))] [] (.t (.tup [intsA a,.int .i64 e])) []∧Cl cfg 34 [.t (mdA m),.t (intsA c),.t (.arr (evsE l.reverse))] [] (.t (.tup [intsA a,.int .i64 e])) []∧
   Cl cfg 26 [.t (mdA m),.t (.arr (evsE l))] [] (.t (.tup [.arr (clksE V),.int .i64 f])) []∧Cl cfg 26 [.t (mdA m),.t (.arr (evsE l.reverse))] [] (.t (.tup [.arr (clksE V),.int .i64 f])) []∧
   (e=1∨e=0∧a=stateF m c l∧(c.length:Int)=cntOf m.sorts true m.tables∧allV m l=true):=by
 have hm:=hS.len
 have hp':∀ e∈l,e.past.length≤140737488351232:=fun e he=>Nat.le_trans (hp e he) (by omega)
 have hr:∀ e∈l.reverse,e.past.length≤1000:=fun e he=>hp e (List.mem_reverse.1 he)
 have hr':∀ e∈l.reverse,e.past.length≤140737488351232:=fun e he=>hp' e (List.mem_reverse.1 he)
 have hlr:l.reverse.length≤1000:=by rw [List.length_reverse];exact hl
 have hV:(valuesF m l).length≤10000:=by
  have h1:=valF_len m l (m.tables.flatMap (mrgT m.sorts))
  have h2:=mrgT_le m.sorts m.tables
  have h3:=lay_few (model_lay hS.ok)
  have h4:valuesF m l=valF m l (m.tables.flatMap (mrgT m.sorts)):=rfl
  rw [h4,h1]
  omega
 have hVi:∀ x∈valuesF m l,x.length≤140737488351232:=valF_in hl _
 cases hva:allV m l with
 | false=>
  have hvr:allV m l.reverse=false:=by rw [allV_rev];exact hva
  exact ⟨[],1,[],1,by simp,by simp,by simp,estate_n hS (by omega) hp' (by omega) (by rw [hva];simp),estate_n hS (by omega) hr' (by omega) (by rw [hvr];simp),evalues_n hm (by omega) hp' hva,evalues_n hm (by omega) hr' hvr,.inl rfl⟩
 | true=>
  have hvr:allV m l.reverse=true:=by rw [allV_rev];exact hva
  have v2:=evalues_c hS hlr hr hvr
  rw [valuesF_rev hap] at v2
  by_cases hlc:(c.length:Int)=cntOf m.sorts true m.tables
  ·have s2:=estate_a hS hlr hr hcl hlc hvr
   rw [stateF_rev] at s2
   exact ⟨_,0,_,0,by rw [stateF_len];exact hcl,hV,hVi,estate_a hS hl hp hcl hlc hva,s2,evalues_c hS hl hp hva,v2,.inr ⟨rfl,rfl,hlc,rfl⟩⟩
  ·exact ⟨[],1,_,0,by simp,hV,hVi,estate_n hS (by omega) hp' (by omega) (by simp [hlc]),estate_n hS (by omega) hr' (by omega) (by simp [hlc]),evalues_c hS hl hp hva,v2,.inl rfl⟩
theorem rev_0:Cl cfg 35 [.t (.arr [])] [] (.tup []) []:=⟨4,by kernel_rfl⟩
theorem eclone_0:Cl cfg 27 [.t (.arr [])] [] (.t (.arr [])) []:=⟨1,rfl⟩
section
variable {g:Cfg} {d:Option (List Nat)} {i:Nat} {env:Env} {fr:Fr}
theorem OpR.callZ {c:Operand} {args:Array Operand} {tys:Array TypeId} {f:Nat} {pa qa argv:List SV} {xs:List AV} {us':List SV} {r:SV} {fr':Fr} (hcl:Cl g f us' [] r []) (hcal:calleeS (rd env c)=some (f,pa,qa)) (hav:pa++args.toList.map (rd env)++qa=argv) (hx:toAVs fr (treeArgs (handL g f 0 argv) argv)=some xs) (hh:dedup [] (handRefs (handL g f 0 argv) argv)=[]) (hm:mixArgs (idxσ []) (handL g f 0 argv) argv xs=us')
  (hd:drOf d i=false) (hf':flatS r=false) (hn:r.refs=[]) (hf:LEq (freeze fr (rchs fr (treeArgs (handL g f 0 argv) argv))) fr'):OpR g d i env fr (.call ⟨.value c,args,tys⟩) r fr' []:=.call hcl hcal hav hx hh hm (by
 unfold callRes
 rw [hf',hd]
 simp only [SV.sub_no r hn,hf.eq,List.map_nil,List.append_nil])
end
theorem law_sums {m:Md} (hm:MdL m) (hef:∀ a∈m.acts,EfB a.eff) (c:List Int) (l:List Ev) (n:Int) (n0:0≤n) (n1:n≤255) (hc:c.length≤17592186044416) (hl:l.length≤17592186044416) (hp:∀ e∈l,e.past.length≤17592186044416):Cl cfg 7 [.t (mdA m),.t (intsA c),.t (.arr (evsE l)),.t (.int .u8 n)] [] (.t (.bool true)) []:=by
 have kf:=few_c (l:=l) hm hef (by omega) fun e he=>Nat.le_trans (hp e he) (by omega)
 obtain ⟨x1,hx1⟩:∃ x,fewMB m l=x:=⟨_,rfl⟩
 rw [hx1] at kf
 have hlE:=evsE_len l
 have hlI:=intsE_len c
 cases x1 with
 | false=>
  rw [mdA_eq] at kf ⊢
  refine Cl.of_body rfl Tryz.func7 rfl rfl rfl ?_
  repeat' (first
|(with_reducible apply EvK.seq)
|((with_reducible apply EvK.text);(try case hm=>exact rfl))
|(with_reducible first|apply EvK.skip|apply EvK.ret|apply thenK_n|apply thenK_r)
|((with_reducible apply EvK.cond_t);(case hc=>exact rfl))
|((with_reducible apply EvK.cond_f);(case hc=>exact rfl))
|(with_reducible apply EvO.nilT)
|((with_reducible apply EvO.gf);(case hW=>exact rfl))
|((with_reducible apply EvO.u0);(case hx=>first
|(exact oqF awake_c)
|(exact oqF kf)
|exact opq))
|fail)
  exact ⟨.inr rfl,rfl⟩
 | true=>
  by_cases h60:c.length≤60
  rotate_left
  ·
   rw [mdA_eq] at kf ⊢
   refine Cl.of_body rfl Tryz.func7 rfl rfl rfl ?_
   repeat' (first
|(with_reducible apply EvK.seq)
|((with_reducible apply EvK.text);(try case hm=>exact rfl))
|(with_reducible first|apply EvK.skip|apply EvK.ret|apply thenK_n|apply thenK_r)
|((with_reducible apply EvK.cond_t);(case hc=>exact rfl))
|((with_reducible apply EvK.cond_f);(case hc=>exact rfl))
|((with_reducible apply EvO.spd_yt);(case hp=>exact fao))
|(with_reducible apply EvO.nilT)
|((with_reducible apply EvO.gt0);(case hW=>exact rfl);(case hx=>exact opq))
|((with_reducible apply EvO.u0);(case hx=>first
|(exact oqF awake_c)
|(exact oqF kf)
|exact opq))
|fail)
   exact ⟨.inr rfl,rfl⟩
  obtain ⟨f1,f2,f3,f4,f5,f6⟩:=fewMB_iff hx1
  have hS:Small m:=⟨hm,f2,f3⟩
  have hll:l.length≤60:=f1.2.2.2.2.2
  have hpp:∀ e∈l,e.past.length≤1000:=fun e he=>Nat.le_trans (f4 e he) (by omega)
  have kcl:=closed_c (l:=l) (by omega) fun e he=>Nat.le_trans (hp e he) (by omega)
  have both:=fun hap=>both_c (c:=c) hS (by omega) hpp (by omega) hap
  have st:=fun (c:List Int) (l:List Ev) h1 h2 h3 h4 h5=>estate_a (l:=l) (c:=c) hS h1 h2 h3 h4 h5
  obtain ⟨bc,hbc⟩:∃ b,closedB l=b:=⟨_,rfl⟩
  rw [hbc] at kcl
  rw [mdA_eq] at kf both st ⊢
  refine Cl.of_body rfl Tryz.func7 rfl rfl rfl ?_
  repeat' (first
|(with_reducible first|apply EvK.seq|apply EvK.block)
|((with_reducible apply EvK.text);(try case hm=>exact rfl))
|(with_reducible first|apply EvK.skip|apply thenK_n)
|((with_reducible apply EvK.cond_f);(case hc=>exact rfl))
|((with_reducible apply EvO.spd_yf);(case hp=>exact fao))
|(with_reducible apply EvO.nilT)
|((with_reducible apply EvO.gt0);(case hW=>exact rfl);(case hx=>exact opq))
|((with_reducible apply EvO.u0);(case hx=>first
|(exact oqF awake_c)
|(exact oqF kf)
|exact opq))
|fail)
  apply EvK.loopV
  case ho=>exact rfl
  case hp=>exact rfl
  case hl=>exact rfl
  case hs=>exact slt
  refine EvL.indF (fun q:Nat=>[(36,.t (.int .i64 (q:Int)))]) (fun q=>[.box false 30 ((mdC m).map .t)]) (fun q=>q≤l.length∧apartB l=allG (fun i x=>!(l.take i).any (keyEq x)) q (l.drop q)) (fun q=>l.length - q) 0 rfl rfl ⟨by omega,rfl⟩ (fun q hq=>?_)
  obtain ⟨q1,q2⟩:=hq
  rcases Nat.lt_or_ge q l.length with h3|h3
  ·
   obtain ⟨e,he⟩:=get_of_lt h3
   have hec:=evsE_get he
   rw [allG_hit he] at q2
   have kc:=conM_c (l:=l.take q) (p:=keyEq e) (c:=.tp (evCs e)) (by simp;omega) fun x _=>ksum_c e x
   have e1:evCs e=[.int .i64 e.r,.int .i64 e.n,.int .i64 e.t,intsA e.past,.int .i64 e.k,.int .i64 e.a,.int .i64 e.gk,.int .i64 e.gi,.int .i64 e.ge,.int .i64 e.ga,.int .i64 e.to,.int .i64 e.pl,.int .i64 e.se]:=rfl
   rw [e1] at kc
   obtain ⟨b,hb⟩:∃ b,(l.take q).any (keyEq e)=b:=⟨_,rfl⟩
   rw [hb] at kc q2
   have htk:=takeev l q
   cases b with
   | true=>
    repeat' (first
|(with_reducible first|apply EvK.seq|apply EvK.block)
|((with_reducible apply EvK.text);(try case hm=>exact rfl))
|(with_reducible first|apply EvK.skip|apply EvK.ret|apply thenK_n|apply thenK_r|apply blockK_r)
|((with_reducible apply EvK.cond_t);(case hc=>exact rfl))
|((with_reducible apply EvO.spd_t);(case hp=>exact fao))
|(with_reducible apply EvO.nilT)
|((with_reducible apply EvO.u0);(case hx=>first
|((with_reducible apply OpR.slh);(case he|hx|hi=>exact rfl);(case hn=>first|assumption|omega|(simp;omega));(case hz=>exact okev _);(case hv=>exact htk))
|(exact oqF kc)
|exact opq))
|fail)
    exact ⟨.inr rfl,rfl⟩
   | false=>
    repeat' (first
|(with_reducible first|apply EvK.seq|apply EvK.block)
|((with_reducible apply EvK.text);(try case hm=>exact rfl))
|(with_reducible first|apply EvK.skip|apply thenK_n|apply blockK_n)
|((with_reducible apply EvK.cond_t);(case hc=>exact rfl))
|((with_reducible apply EvK.cond_f);(case hc=>exact rfl))
|((with_reducible apply EvO.spd_t);(case hp=>exact fao))
|(with_reducible apply EvO.nilT)
|((with_reducible apply EvO.u0);(case hx=>first
|((with_reducible apply OpR.slh);(case he|hx|hi=>exact rfl);(case hn=>first|assumption|omega|(simp;omega));(case hz=>exact okev _);(case hv=>exact htk))
|(exact oqF kc)
|exact opq))
|fail)
    exact ⟨q+1,rfl,rfl,⟨by omega,by rw [q2];rfl⟩,by omega⟩
  ·
   have hap:apartB l=true:=by rw [q2,allG_end h3]
   obtain ⟨a,e,V,f,ha,hV,hVi,ks1,ks2,kv1,kv2,hres⟩:=both hap
   have keq:=equalint_c (xs:=a) (ys:=a) (by omega) (by omega)
   rw [beq_self_eq_true] at keq
   have kls:=lists_c (A:=V) (by omega) hVi
   have hk:n.tmod ((l.length:Int)+1)=((n.toNat % (l.length+1):Nat):Int):=by
    have e:n=((n.toNat:Nat):Int):=by omega
    rw [Int.tmod_eq_emod_of_nonneg n0]
    conv=>lhs;rw [e]
    rfl
   have hkl:n.toNat % (l.length+1)≤l.length:=by
    have:=Nat.mod_lt n.toNat (show 0 < l.length+1 by omega)
    omega
   obtain ⟨k,hkk⟩:∃ k,n.toNat % (l.length+1)=k:=⟨_,rfl⟩
   rw [hkk] at hk hkl
   have htk:=takeev l k
   have hdk:=dropev l k
   have hsw:e=1∨e=0∧Cl cfg 34 [.t (.agg [intsA m.sorts,.arr (tbE m.tables),.arr (nmE m.fams),.arr (cnE m.cons),.arr (opE m.ops),.arr (acE m.acts),.arr (hdE m.hides)]),.t (intsA c),.t (.arr (evsE (l.take k)))] [] (.t (.tup [intsA (stateF m c (l.take k)),.int .i64 0])) []∧Cl cfg 34 [.t (.agg [intsA m.sorts,.arr (tbE m.tables),.arr (nmE m.fams),.arr (cnE m.cons),.arr (opE m.ops),.arr (acE m.acts),.arr (hdE m.hides)]),.t (intsA (stateF m c (l.take k))),.t (.arr (evsE (l.drop k)))] [] (.t (.tup [intsA a,.int .i64 0])) []:=by
    rcases hres with h|⟨h1,h2,h4,h5⟩
    ·exact .inl h
    ·refine .inr ⟨h1,st c (l.take k) (by simp;omega) (fun x hx=>hpp x (List.mem_of_mem_take hx)) (by omega) h4 (allV_take h5 k),?_⟩
     have:=st (stateF m c (l.take k)) (l.drop k) (by simp;omega) (fun x hx=>hpp x (List.mem_of_mem_drop hx)) (by rw [stateF_len];omega) (by rw [stateF_len];exact h4) (allV_drop h5 k)
     rw [← stateF_app,List.take_append_drop,← h2] at this
     exact this
   rcases List.eq_nil_or_concat l with h0|⟨l',x',h0⟩
   ·
    subst h0
    have hz:([]:List Ev).length=0:=rfl
    rcases hsw with rfl|⟨rfl,kt1,kt2⟩
    ·
     repeat' (first
|(with_reducible apply EvK.seq)
|((with_reducible apply EvK.text);(try case hm=>exact rfl))
|(with_reducible first|apply EvK.skip|apply EvK.exit|apply EvK.ret|apply thenK_n|apply thenK_e|apply thenK_r|apply blockK_h)
|((with_reducible apply EvK.cond_t);(case hc=>exact rfl))
|((with_reducible apply EvK.cond_f);(case hc=>exact rfl))
|((with_reducible apply EvO.spd_f);(case hp=>exact fao))
|((with_reducible apply EvO.spn_t);(case hp=>exact fao))
|((with_reducible apply EvO.spn_f);(case hp=>exact fao))
|((with_reducible apply EvO.spn_yf);(case hp=>exact fao))
|(with_reducible apply EvO.nilT)
|((with_reducible apply EvO.gt0);(case hW=>exact rfl);(case hx=>first
|(exact oqF keq)
|exact opq))
|((with_reducible apply EvO.u0);(case hx=>first
|(exact oqN ks1)
|(exact oqN kv1)
|(exact oqN eclone_0)
|(exact oqF rev_0)
|exact opq))
|fail)
     exact ⟨.inr rfl,rfl⟩
    ·
     cases bc with
     | true=>
      repeat' (first
|(with_reducible apply EvK.seq)
|((with_reducible apply EvK.text);(try case hm=>exact rfl))
|((with_reducible apply EvK.drawn);(case hm=>exact rfl))
|(with_reducible first|apply EvK.skip|apply EvK.exit|apply EvK.ret|apply thenK_n|apply thenK_e|apply blockK_h)
|((with_reducible apply EvK.cond_f);(case hc=>exact rfl))
|((with_reducible apply EvO.spd_t);(case hp=>exact fao))
|((with_reducible apply EvO.spd_f);(case hp=>exact fao))
|((with_reducible apply EvO.spn_f);(case hp=>exact fao))
|((with_reducible apply EvO.spd_yt);(case hp=>exact fao))
|((with_reducible apply EvO.spn_yf);(case hp=>exact fao))
|(with_reducible apply EvO.nilT)
|((with_reducible apply EvO.gt0);(case hW=>exact rfl);(case hx=>first
|(exact oqF keq)
|(exact oqF kls)
|exact opq))
|((with_reducible apply EvO.u0);(case hx=>first
|((with_reducible apply OpR.cvi);(case hx|hs|hd=>exact rfl);(case h=>omega))
|((with_reducible apply OpR.remv);(case hx|hy=>exact rfl);(case hn=>omega);(case h=>exact hk))
|((with_reducible apply OpR.slh);(case he|hx|hi=>exact rfl);(case hn=>first|assumption|omega|(simp;omega));(case hz=>exact okev _);(case hv=>exact htk))
|((with_reducible apply OpR.sll);(case he|hx|hi=>exact rfl);(case hn=>first|assumption|omega|(simp;omega));(case hz=>exact okev _);(case hv=>exact hdk))
|(exact oqN ks1)
|(exact oqN kv1)
|(exact oqN eclone_0)
|(exact oqF rev_0)
|(exact oqF kcl)
|(exact oqN kt1)
|(exact oqN kt2)
|exact opq))
|fail)
      exact ⟨.inr rfl,rfl⟩
     | false=>
      repeat' (first
|(with_reducible apply EvK.seq)
|((with_reducible apply EvK.text);(try case hm=>exact rfl))
|((with_reducible apply EvK.drawn);(case hm=>exact rfl))
|(with_reducible first|apply EvK.skip|apply EvK.exit|apply EvK.ret|apply thenK_n|apply thenK_e|apply blockK_h)
|((with_reducible apply EvK.cond_f);(case hc=>exact rfl))
|((with_reducible apply EvO.spd_t);(case hp=>exact fao))
|((with_reducible apply EvO.spd_f);(case hp=>exact fao))
|((with_reducible apply EvO.spn_f);(case hp=>exact fao))
|((with_reducible apply EvO.spd_yt);(case hp=>exact fao))
|((with_reducible apply EvO.spn_yf);(case hp=>exact fao))
|(with_reducible apply EvO.nilT)
|((with_reducible apply EvO.gf);(case hW=>exact rfl))
|((with_reducible apply EvO.gt0);(case hW=>exact rfl);(case hx=>first
|(exact oqF keq)
|exact opq))
|((with_reducible apply EvO.u0);(case hx=>first
|((with_reducible apply OpR.cvi);(case hx|hs|hd=>exact rfl);(case h=>omega))
|((with_reducible apply OpR.remv);(case hx|hy=>exact rfl);(case hn=>omega);(case h=>exact hk))
|((with_reducible apply OpR.slh);(case he|hx|hi=>exact rfl);(case hn=>first|assumption|omega|(simp;omega));(case hz=>exact okev _);(case hv=>exact htk))
|((with_reducible apply OpR.sll);(case he|hx|hi=>exact rfl);(case hn=>first|assumption|omega|(simp;omega));(case hz=>exact okev _);(case hv=>exact hdk))
|(exact oqN ks1)
|(exact oqN kv1)
|(exact oqN eclone_0)
|(exact oqF rev_0)
|(exact oqF kcl)
|(exact oqN kt1)
|(exact oqN kt2)
|exact opq))
|fail)
      exact ⟨.inr rfl,rfl⟩
   ·
    have hne:l≠[]:=by rw [h0];simp
    have kr:=rev_c hne (by omega)
    have kcn:Cl cfg 27 [.t (.arr (evsE l))] [] (.ls 0) [.row false false 13 (evsE l)]:=by
     cases l with
     | nil=>exact absurd rfl hne
     | cons y l=>exact eclone_c (by simp at hll ⊢;omega)
    rcases hsw with rfl|⟨rfl,kt1,kt2⟩
    ·
     repeat' (first
|(with_reducible apply EvK.seq)
|((with_reducible apply EvK.text);(try case hm=>exact rfl))
|(with_reducible first|apply EvK.skip|apply EvK.exit|apply EvK.ret|apply thenK_n|apply thenK_e|apply thenK_r|apply blockK_h)
|((with_reducible apply EvK.cond_t);(case hc=>exact rfl))
|((with_reducible apply EvK.cond_f);(case hc=>exact rfl))
|((with_reducible apply EvO.spd_f);(case hp=>exact fao))
|((with_reducible apply EvO.spn_t);(case hp=>exact fao))
|((with_reducible apply EvO.spn_f);(case hp=>exact fao))
|((with_reducible apply EvO.spn_yf);(case hp=>exact fao))
|(with_reducible apply EvO.nilT)
|((with_reducible apply EvO.gt0);(case hW=>exact rfl);(case hx=>first
|(exact oqF keq)
|exact opq))
|((with_reducible apply EvO.u0);(case hx=>first
|((with_reducible apply OpR.callZ);(case hcal|hav|hx|hh|hm=>exact rfl);(case hcl=>exact ks2);(case hd|hf'|hn=>exact rfl);(case hf=>exact leq))
|((with_reducible apply OpR.callZ);(case hcal|hav|hx|hh|hm=>exact rfl);(case hcl=>exact kv2);(case hd|hf'|hn=>exact rfl);(case hf=>exact leq))
|(exact oqN ks1)
|(exact oqN kv1)
|(exact oqX kcn)
|(exact oqQ [1] kr)
|exact opq))
|fail)
     exact ⟨.inr rfl,rfl⟩
    ·
     cases bc with
     | true=>
      repeat' (first
|(with_reducible apply EvK.seq)
|((with_reducible apply EvK.text);(try case hm=>exact rfl))
|((with_reducible apply EvK.drawn);(case hm=>exact rfl))
|(with_reducible first|apply EvK.skip|apply EvK.exit|apply EvK.ret|apply thenK_n|apply thenK_e|apply blockK_h)
|((with_reducible apply EvK.cond_f);(case hc=>exact rfl))
|((with_reducible apply EvO.spd_t);(case hp=>exact fao))
|((with_reducible apply EvO.spd_f);(case hp=>exact fao))
|((with_reducible apply EvO.spn_f);(case hp=>exact fao))
|((with_reducible apply EvO.spd_yt);(case hp=>exact fao))
|((with_reducible apply EvO.spn_yf);(case hp=>exact fao))
|(with_reducible apply EvO.nilT)
|((with_reducible apply EvO.gt0);(case hW=>exact rfl);(case hx=>first
|(exact oqF keq)
|(exact oqF kls)
|exact opq))
|((with_reducible apply EvO.u0);(case hx=>first
|((with_reducible apply OpR.callZ);(case hcal|hav|hx|hh|hm=>exact rfl);(case hcl=>exact ks2);(case hd|hf'|hn=>exact rfl);(case hf=>exact leq))
|((with_reducible apply OpR.callZ);(case hcal|hav|hx|hh|hm=>exact rfl);(case hcl=>exact kv2);(case hd|hf'|hn=>exact rfl);(case hf=>exact leq))
|((with_reducible apply OpR.cvi);(case hx|hs|hd=>exact rfl);(case h=>omega))
|((with_reducible apply OpR.remv);(case hx|hy=>exact rfl);(case hn=>omega);(case h=>exact hk))
|((with_reducible apply OpR.slh);(case he|hx|hi=>exact rfl);(case hn=>first|assumption|omega|(simp;omega));(case hz=>exact okev _);(case hv=>exact htk))
|((with_reducible apply OpR.sll);(case he|hx|hi=>exact rfl);(case hn=>first|assumption|omega|(simp;omega));(case hz=>exact okev _);(case hv=>exact hdk))
|(exact oqN ks1)
|(exact oqN kv1)
|(exact oqX kcn)
|(exact oqF kcl)
|(exact oqN kt1)
|(exact oqN kt2)
|(exact oqQ [1] kr)
|exact opq))
|fail)
      exact ⟨.inr rfl,rfl⟩
     | false=>
      repeat' (first
|(with_reducible apply EvK.seq)
|((with_reducible apply EvK.text);(try case hm=>exact rfl))
|((with_reducible apply EvK.drawn);(case hm=>exact rfl))
|(with_reducible first|apply EvK.skip|apply EvK.exit|apply EvK.ret|apply thenK_n|apply thenK_e|apply blockK_h)
|((with_reducible apply EvK.cond_f);(case hc=>exact rfl))
|((with_reducible apply EvO.spd_t);(case hp=>exact fao))
|((with_reducible apply EvO.spd_f);(case hp=>exact fao))
|((with_reducible apply EvO.spn_f);(case hp=>exact fao))
|((with_reducible apply EvO.spd_yt);(case hp=>exact fao))
|((with_reducible apply EvO.spn_yf);(case hp=>exact fao))
|(with_reducible apply EvO.nilT)
|((with_reducible apply EvO.gf);(case hW=>exact rfl))
|((with_reducible apply EvO.gt0);(case hW=>exact rfl);(case hx=>first
|(exact oqF keq)
|exact opq))
|((with_reducible apply EvO.u0);(case hx=>first
|((with_reducible apply OpR.callZ);(case hcal|hav|hx|hh|hm=>exact rfl);(case hcl=>exact ks2);(case hd|hf'|hn=>exact rfl);(case hf=>exact leq))
|((with_reducible apply OpR.callZ);(case hcal|hav|hx|hh|hm=>exact rfl);(case hcl=>exact kv2);(case hd|hf'|hn=>exact rfl);(case hf=>exact leq))
|((with_reducible apply OpR.cvi);(case hx|hs|hd=>exact rfl);(case h=>omega))
|((with_reducible apply OpR.remv);(case hx|hy=>exact rfl);(case hn=>omega);(case h=>exact hk))
|((with_reducible apply OpR.slh);(case he|hx|hi=>exact rfl);(case hn=>first|assumption|omega|(simp;omega));(case hz=>exact okev _);(case hv=>exact htk))
|((with_reducible apply OpR.sll);(case he|hx|hi=>exact rfl);(case hn=>first|assumption|omega|(simp;omega));(case hz=>exact okev _);(case hv=>exact hdk))
|(exact oqN ks1)
|(exact oqN kv1)
|(exact oqX kcn)
|(exact oqF kcl)
|(exact oqN kt1)
|(exact oqN kt2)
|(exact oqQ [1] kr)
|exact opq))
|fail)
      exact ⟨.inr rfl,rfl⟩
end Go.Proofs.YtgbfedgghjcdcaaGreatDoor
