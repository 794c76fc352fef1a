/- Law 32: the updates of a cell,as a contract. No condition. -/
import Derived.Test.YtgbfedgghjcdcaaGreatDoorMD
import Derived.Test.YtgbfedgghjcdcaaGreatDoorTS
import Derived.Test.YtgbfedgghjcdcaaGreatDoorTKA
import Derived.Test.YtgbfedgghjcdcaaGreatDoorXB
set_option linter.unusedSimpArgs false
set_option linter.unusedVariables false
set_option linter.unusedSectionVars false
namespace Go.Proofs.YtgbfedgghjcdcaaGreatDoor
open Go.RowKit
set_option maxRecDepth 100000
set_option maxHeartbeats 32000000
def wrC (w:Wr):List AV:=evCs w.e++udC w.u
def wrE (l:List Wr):List (List AV):=l.map wrC
theorem wrE_len (l:List Wr):(wrE l).length=l.length:=List.length_map _
theorem wrE_get {l:List Wr} {k:Nat} {w:Wr} (h:l[k]?=some w):(wrE l)[k]?=some [.int .i64 w.e.r,.int .i64 w.e.n,.int .i64 w.e.t,intsA w.e.past,.int .i64 w.e.k,.int .i64 w.e.a,.int .i64 w.e.gk,.int .i64 w.e.gi,.int .i64 w.e.ge,.int .i64 w.e.ga,.int .i64 w.e.to,.int .i64 w.e.pl,.int .i64 w.e.se,.int .i64 w.u.kind,.int .i64 w.u.cell,.int .i64 w.u.value]:=map_get h
theorem wrE_app (l m:List Wr):wrE l++wrE m=wrE (l++m):=by unfold wrE;rw [List.map_append]
theorem wrs_snoc {m:Md} {l:List Ev} {c:Int} {q:Nat} {e:Ev} (h:l[q]?=some e):wrs m (l.take (q+1)) c=wrs m (l.take q) c++(match updOf m c e with|some u=>[⟨e,u⟩]|none=>[]):=by
 unfold wrs
 rw [List.take_add_one,h]
 simp only [Option.toList,List.filterMap_append,List.filterMap_cons,List.filterMap_nil]
 cases updOf m c e <;> rfl
def lastU (c:Int) (U:List Upd) (q:Nat):Option Upd:=(U.take q).reverse.find? fun u=>decide (u.cell=c)
theorem lastU_0 (c:Int) (U:List Upd):lastU c U 0=none:=rfl
theorem lastU_s {c:Int} {U:List Upd} {q:Nat} {u:Upd} (h:U[q]?=some u):lastU c U (q+1)=if u.cell=c then some u else lastU c U q:=by
 unfold lastU
 rw [List.take_add_one,h]
 simp only [Option.toList,List.reverse_append,List.reverse_cons,List.reverse_nil,List.nil_append,List.cons_append,List.find?_cons]
 by_cases hc:u.cell=c <;> simp [hc]
theorem lastU_all (c:Int) (U:List Upd):lastU c U U.length=U.reverse.find? fun u=>decide (u.cell=c):=by unfold lastU;rw [List.take_length]
theorem updOf_act {m:Md} {e:Ev} {a:Actn} {c:Int} (hk:e.k=0) (ha:m.acts[e.a.toNat]?=some a):updOf m c e=lastU c a.eff.ups a.eff.ups.length:=by
 unfold updOf
 rw [if_pos hk,List.getD_eq_getElem?_getD,ha,lastU_all]
 rfl
theorem updOf_no {m:Md} {e:Ev} {c:Int} (hk:e.k≠0):updOf m c e=none:=by
 unfold updOf
 rw [if_neg hk]
theorem EvR.mkN {g:Cfg} {f:Nat} {asg body:Code} {env:Env} {fr:Fr} {K:Out→Env→Fr→Prop} {ps:List Nat} {y:List AV} {bs:Fr} (F:Fr) (hl:Nat.beq y.length ps.length=true) (hb:getAll fr (List.range fr.length)=some bs) (hF:(bs.map fun b=>unTch (b.sub (idxσ (List.range fr.length))))=F)
  (h:EvK g f asg (setPs ps y fun t=>(env t).sub (idxσ (List.range fr.length))) F fun o e r=>o=.normal∧EvK g f body e r (roundK (g.lv f (blockId body)) env fr K)):EvR g f ps asg body y env fr K:=by
 subst hF
 exact EvR.mk hl hb h
theorem EvRs.bwd2 {g:Cfg} {f:Nat} {asg body:Code} {ps:List Nat} {env:Env} {fr:Fr} {K:Out→Env→Fr→Prop} {es:List (List AV)} {n:Nat} (E1:Env) (F1:Fr) (C:Nat→Prop) (hz0:n=0→K .normal env fr)
  (hf:∀ q,n=q+1→EvR g f ps asg body [.int .i64 (q:Int),.agg (es[q]?.getD [])] env fr (thenK (fun e r=>e=E1∧r=F1∧C q) K))
  (hs:∀ q,C (q+1)→EvR g f ps asg body [.int .i64 (q:Int),.agg (es[q]?.getD [])] E1 F1 (thenK (fun e r=>e=E1∧r=F1∧C q) K))
  (hz:C 0→K .normal E1 F1):EvRs g f ps asg body true (bwd es n) env fr K:=by
 have key:∀ q,C q→EvRs g f ps asg body true (bwd es q) E1 F1 K:=by
  intro q
  induction q with
  | zero=>exact fun h=>EvRs.nil (hz h)
  | succ q ih=>
   intro h
   refine EvRs.cons ?_
   obtain ⟨n,o,e,r,h1,h2⟩:=hs q h
   refine ⟨n,o,e,r,h1,?_⟩
   cases o with
   | normal=>obtain ⟨rfl,rfl,h3⟩:=h2;exact ih h3
   | exit id=>exact h2
   | ret=>exact h2
 cases n with
 | zero=>exact EvRs.nil (hz0 rfl)
 | succ q=>
  refine EvRs.cons ?_
  obtain ⟨n,o,e,r,h1,h2⟩:=hf q rfl
  refine ⟨n,o,e,r,h1,?_⟩
  cases o with
  | normal=>obtain ⟨rfl,rfl,h3⟩:=h2;exact key q h3
  | exit id=>exact h2
  | ret=>exact h2
theorem seq_val {U:List Upd} (hl:U.length≤1000):cfg.seq 167 [.tp [.arr (udE U)]]=some (bwd (udE U) U.length,true):=by
 have h1:((udE U).all fun c=>Nat.beq c.length 3)=true:=by
  unfold udE
  rw [List.all_map]
  exact List.all_eq_true.2 fun u _=>rfl
 have h2:Nat.ble (udE U).length 140737488351232=true:=by rw [udE_len,Nat.ble_eq];omega
 have e:((udE U).all (fun c=>Nat.beq c.length 3) && Nat.ble (udE U).length 140737488351232)=true:=by rw [h1,h2];rfl
 have e0:cfg.seq=seqT:=rfl
 rw [e0]
 unfold seqT
 rw [← udE_len U]
 show (match (udE U).all (fun c=>Nat.beq c.length 3) && Nat.ble (udE U).length 140737488351232 with|true=>some (bwd (udE U) (udE U).length,true)|false=>none)=_
 rw [e]
theorem backw_c {U:List Upd} (hl:U.length≤1000):Cl cfg 134 [.t (.arr (udE U))] [] (.fn (.func 167) 0 [.lp 0 0]) [.box false 59 [.t (.arr (udE U))]]:=by
 refine Cl.of_body rfl Tryz.func134 rfl rfl rfl ?_
 repeat' (first
|(with_reducible apply EvK.seq)
|((with_reducible apply EvK.text);(try case hm=>exact rfl))
|(with_reducible first|apply EvK.ret|apply EvO.nilT)
|((with_reducible apply EvO.u0);(case hx=>exact opq))
|fail)
 exact ⟨.inr rfl,rfl⟩
theorem ewrites_c {m:Md} {l:List Ev} {c:Int} (hm:MdL m) (hl:l.length≤1000) (hact:∀ e∈l,e.k=0→∃ a,m.acts[e.a.toNat]?=some a∧0≤e.a∧e.a < m.acts.length) (hups:∀ a∈m.acts,a.eff.ups.length≤1000):Cl cfg 78 [.t (mdA m),.t (.arr (evsE l)),.t (.int .i64 c)] [] (.t (.arr (wrE (wrs m l c)))) []:=by
 have hlE:=evsE_len l
 have hlA:=acE_len m.acts
 have e1:mdA m=.agg [intsA m.sorts,.arr (tbE m.tables),.arr (nmE m.fams),.arr (cnE m.cons),.arr (opE m.ops),.arr (acE m.acts),.arr (hdE m.hides)]:=rfl
 rw [e1]
 refine Cl.of_bodyT rfl Tryz.func78 rfl rfl rfl ?_
 repeat' (first
|(with_reducible first|apply EvK.seq|apply EvK.block)
|((with_reducible apply EvK.text);(try case hm=>exact rfl))
|(with_reducible apply EvO.nilT)
|((with_reducible apply EvO.u0);(case hx=>exact opq))
|fail)
 apply EvK.loopV
 case ho=>exact rfl
 case hp=>exact rfl
 case hl=>exact rfl
 case hs=>exact slt
 refine EvL.indF (fun x:Nat×Bool=>[(14,.t (.int .i64 (x.1:Int)))]) (fun x=>[.box false 30 ((mdC m).map .t),.box false 3 [.t (.int .i64 c)],.box false 120 [.ls 3],.row false x.2 16 (wrE (wrs m (l.take x.1) c))]) (fun x=>x.1≤l.length) (fun x=>l.length - x.1) (0,false) rfl rfl (by simp) (fun x hq=>?_)
 obtain ⟨q,tch⟩:=x
 dsimp only at hq ⊢
 rcases Nat.lt_or_ge q l.length with h3|h3
 ·
  obtain ⟨e,he⟩:=get_of_lt h3
  have hec:=evsE_get he
  have hsn:=wrs_snoc (m:=m) (c:=c) he
  have hwl:(wrs m (l.take q) c).length≤1000:=by
   unfold wrs
   refine Nat.le_trans (List.length_filterMap_le _ _) ?_
   simp;omega
  obtain ⟨X,hX⟩:∃ X,wrs m (l.take q) c=X:=⟨_,rfl⟩
  rw [hX] at hsn hwl ⊢
  by_cases hk:e.k=0
  ·
   obtain ⟨a,ha,a0,a1⟩:=hact e (List.mem_of_getElem? he) hk
   have hac:=acE_get ha
   have hU:=hups a (List.mem_of_getElem? ha)
   have kb:=backw_c hU
   rw [updOf_act hk ha] at hsn
   have hlX:lenOk ((wrE X).length+1) 144=true:=by
    rw [wrE_len]
    simp [lenOk]
    omega
   obtain ⟨U,hUU⟩:∃ U,a.eff.ups=U:=⟨_,rfl⟩
   rw [hUU] at hac hU kb hsn
   have hlU:=udE_len U
   cases tch
   ·
    repeat' (first
|(with_reducible first|apply EvK.seq|apply EvK.block)
|((with_reducible apply EvK.text);(try case hm=>exact rfl))
|(with_reducible first|apply EvK.skip|apply thenK_n)
|((with_reducible apply EvK.cond_t);(case hc=>exact rfl))
|((with_reducible apply EvK.cond_f);(case hc=>exact rfl))
|((with_reducible apply EvO.spd_t);(case hp=>exact fao))
|((with_reducible apply EvO.spn_f);(case hp=>exact fao))
|(with_reducible apply EvO.nilT)
|((with_reducible apply EvO.u0);(case hx=>first
|(exact oqX kb)
|exact opq))
|fail)
    refine EvK.range (yss:=bwd (udE U) U.length) (wh:=true) (fr1:=[.box false 30 ((mdC m).map .t),.box false 3 [.t (.int .i64 c)],.box false 120 [.ls 3],.row false false 16 (wrE X),.box false 36 (([.int .i64 e.r,.int .i64 e.n,.int .i64 e.t,intsA e.past,.int .i64 e.k,.int .i64 e.a,.int .i64 e.gk,.int .i64 e.gi,.int .i64 e.ge,.int .i64 e.ga,.int .i64 e.to,.int .i64 e.pl,.int .i64 e.se]:List AV).map .t),.box true 59 [.t (.arr (udE U))]]) rfl rfl (seq_val hU) rfl ?_
    refine EvRs.bwd2 (mkEnv [(3,.lp 0 0),(5,.lp 1 0),(7,.lp 2 0),(9,.lp 4 0),(12,.t (.arr (evsE l))),(13,.t (.int .i64 (l.length:Int))),(14,.t (.int .i64 (q:Int)))]) [.box false 30 ((mdC m).map .t),.box false 3 [.t (.int .i64 c)],.box false 120 [.ls 3],.row false false 16 (wrE X),.box false 36 (([.int .i64 e.r,.int .i64 e.n,.int .i64 e.t,intsA e.past,.int .i64 e.k,.int .i64 e.a,.int .i64 e.gk,.int .i64 e.gi,.int .i64 e.ge,.int .i64 e.ga,.int .i64 e.to,.int .i64 e.pl,.int .i64 e.se]:List AV).map .t),.box true 59 [.t (.arr (udE U))]] (fun k=>k≤U.length∧lastU c U U.length=lastU c U k) (fun h0=>?_) (fun k hk1=>?_) (fun k hk1=>?_) (fun h0=>?_)
    ·
     rw [h0,lastU_0] at hsn
     repeat' (first
|((with_reducible apply EvK.text);(try case hm=>exact rfl))
|(with_reducible first|apply thenK_n|apply blockK_n|apply EvO.nilT)
|((with_reducible apply EvO.u0);(case hx=>exact opq))
|fail)
     exact ⟨(q+1,false),rfl,by dsimp only;rw [hsn,List.append_nil];rfl,by dsimp only;omega,by dsimp only;omega⟩
    ·
     obtain ⟨u,hu⟩:=get_of_lt (xs:=U) (k:=k) (by omega)
     have hg:((udE U)[k]?.getD [])=[.int .i64 u.kind,.int .i64 u.cell,.int .i64 u.value]:=by rw [udE_get hu];rfl
     have hls:=lastU_s (c:=c) hu
     rw [hg]
     refine EvR.mkN [.box false 30 ((mdC m).map .t),.box false 3 [.t (.int .i64 c)],.box false 120 [.ls 3],.row false false 16 (wrE X),.box false 36 (([.int .i64 e.r,.int .i64 e.n,.int .i64 e.t,intsA e.past,.int .i64 e.k,.int .i64 e.a,.int .i64 e.gk,.int .i64 e.gi,.int .i64 e.ge,.int .i64 e.ga,.int .i64 e.to,.int .i64 e.pl,.int .i64 e.se]:List AV).map .t),.box true 59 [.t (.arr (udE U))]] rfl rfl rfl ?_
     by_cases huc:u.cell=c
     ·
      rw [if_pos huc] at hls
      rw [hk1,hls] at hsn
      have hv:wrE X++[[.int .i64 e.r,.int .i64 e.n,.int .i64 e.t,intsA e.past,.int .i64 e.k,.int .i64 e.a,.int .i64 e.gk,.int .i64 e.gi,.int .i64 e.ge,.int .i64 e.ga,.int .i64 e.to,.int .i64 e.pl,.int .i64 e.se,.int .i64 u.kind,.int .i64 u.cell,.int .i64 u.value]]=wrE (wrs m (l.take (q+1)) c):=by rw [hsn];exact wrE_app _ [⟨e,u⟩]
      repeat' (first
|((with_reducible apply EvK.text);(try case hm=>exact rfl))
|(with_reducible apply EvO.nil)
|((with_reducible apply EvO.u0);(case hx=>exact opq))
|fail)
      refine ⟨rfl,?_⟩
      repeat' (first
|(with_reducible first|apply EvK.seq|apply EvK.block)
|((with_reducible apply EvK.text);(try case hm=>exact rfl))
|(with_reducible apply EvK.exit)
|((with_reducible apply blockK_m);(case hj=>exact rfl))
|((with_reducible apply EvK.cond_t);(case hc=>exact rfl))
|((with_reducible apply EvO.spd_t);(case hp=>exact fao))
|(with_reducible apply EvO.nilT)
|((with_reducible apply EvO.u);(case hx=>((with_reducible apply OpR.apr);(case hs=>exact fun _=>rfl);(case ha|ht=>exact rfl);(case hr=>first|(with_reducible exact rw0)|(with_reducible exact rw1)|(with_reducible exact rw2)|(with_reducible exact rw3)|(with_reducible exact rw4)|exact rfl);(case hx|hy|hn|hb|hok=>exact rfl);(case hlen=>exact hlX);(case hv=>exact hv);(case hk=>exact kfr);(case hf=>exact leq))))
|((with_reducible apply EvO.u0);(case hx=>first
|((with_reducible apply OpR.bld (cs:=[.t (.int .i64 e.r),.t (.int .i64 e.n),.t (.int .i64 e.t),.t (intsA e.past),.t (.int .i64 e.k),.t (.int .i64 e.a),.t (.int .i64 e.gk),.t (.int .i64 e.gi),.t (.int .i64 e.ge),.t (.int .i64 e.ga),.t (.int .i64 e.to),.t (.int .i64 e.pl),.t (.int .i64 e.se),.t (.int .i64 u.kind),.t (.int .i64 u.cell),.t (.int .i64 u.value)]) (v:=.t (.agg [.int .i64 e.r,.int .i64 e.n,.int .i64 e.t,intsA e.past,.int .i64 e.k,.int .i64 e.a,.int .i64 e.gk,.int .i64 e.gi,.int .i64 e.ge,.int .i64 e.ga,.int .i64 e.to,.int .i64 e.pl,.int .i64 e.se,.int .i64 u.kind,.int .i64 u.cell,.int .i64 u.value])));(case ho=>kernel_rfl);(case h=>kernel_rfl);(case hv=>kernel_rfl))
|((with_reducible apply OpR.bsl (es:=[[.int .i64 e.r,.int .i64 e.n,.int .i64 e.t,intsA e.past,.int .i64 e.k,.int .i64 e.a,.int .i64 e.gk,.int .i64 e.gi,.int .i64 e.ge,.int .i64 e.ga,.int .i64 e.to,.int .i64 e.pl,.int .i64 e.se,.int .i64 u.kind,.int .i64 u.cell,.int .i64 u.value]]));(case hw=>exact rfl);(case ho=>kernel_rfl);(case h=>kernel_rfl))
|exact opq))
|fail)
      refine ⟨by kernel_rfl,?_⟩
      repeat' (first
|((with_reducible apply EvK.text);(try case hm=>exact rfl))
|(with_reducible first|apply thenK_n|apply thenK_e|apply blockK_n|apply blockK_h|apply EvO.nilT)
|((with_reducible apply EvO.u0);(case hx=>exact opq))
|fail)
      exact ⟨(q+1,true),rfl,rfl,by dsimp only;omega,by dsimp only;omega⟩
     ·
      rw [if_neg huc] at hls
      repeat' (first
|((with_reducible apply EvK.text);(try case hm=>exact rfl))
|(with_reducible apply EvO.nil)
|((with_reducible apply EvO.u0);(case hx=>exact opq))
|fail)
      refine ⟨rfl,?_⟩
      repeat' (first
|(with_reducible first|apply EvK.seq|apply EvK.block)
|((with_reducible apply EvK.text);(try case hm=>exact rfl))
|(with_reducible first|apply EvK.skip|apply blockK_n)
|((with_reducible apply EvK.cond_f);(case hc=>exact rfl))
|((with_reducible apply EvO.spd_f);(case hp=>exact fao))
|(with_reducible apply EvO.nilT)
|((with_reducible apply EvO.u0);(case hx=>exact opq))
|fail)
      refine ⟨by kernel_rfl,?_⟩
      exact ⟨rfl,rfl,by omega,by rw [hk1,hls]⟩
    ·
     obtain ⟨u,hu⟩:=get_of_lt (xs:=U) (k:=k) (by have:=hk1.1;omega)
     have hg:((udE U)[k]?.getD [])=[.int .i64 u.kind,.int .i64 u.cell,.int .i64 u.value]:=by rw [udE_get hu];rfl
     have hls:=lastU_s (c:=c) hu
     rw [hg]
     refine EvR.mkN [.box false 30 ((mdC m).map .t),.box false 3 [.t (.int .i64 c)],.box false 120 [.ls 3],.row false false 16 (wrE X),.box false 36 (([.int .i64 e.r,.int .i64 e.n,.int .i64 e.t,intsA e.past,.int .i64 e.k,.int .i64 e.a,.int .i64 e.gk,.int .i64 e.gi,.int .i64 e.ge,.int .i64 e.ga,.int .i64 e.to,.int .i64 e.pl,.int .i64 e.se]:List AV).map .t),.box true 59 [.t (.arr (udE U))]] rfl rfl rfl ?_
     by_cases huc:u.cell=c
     ·
      rw [if_pos huc] at hls
      rw [hk1.2,hls] at hsn
      have hv:wrE X++[[.int .i64 e.r,.int .i64 e.n,.int .i64 e.t,intsA e.past,.int .i64 e.k,.int .i64 e.a,.int .i64 e.gk,.int .i64 e.gi,.int .i64 e.ge,.int .i64 e.ga,.int .i64 e.to,.int .i64 e.pl,.int .i64 e.se,.int .i64 u.kind,.int .i64 u.cell,.int .i64 u.value]]=wrE (wrs m (l.take (q+1)) c):=by rw [hsn];exact wrE_app _ [⟨e,u⟩]
      repeat' (first
|((with_reducible apply EvK.text);(try case hm=>exact rfl))
|(with_reducible apply EvO.nil)
|((with_reducible apply EvO.u0);(case hx=>exact opq))
|fail)
      refine ⟨rfl,?_⟩
      repeat' (first
|(with_reducible first|apply EvK.seq|apply EvK.block)
|((with_reducible apply EvK.text);(try case hm=>exact rfl))
|(with_reducible apply EvK.exit)
|((with_reducible apply blockK_m);(case hj=>exact rfl))
|((with_reducible apply EvK.cond_t);(case hc=>exact rfl))
|((with_reducible apply EvO.spd_t);(case hp=>exact fao))
|(with_reducible apply EvO.nilT)
|((with_reducible apply EvO.u);(case hx=>((with_reducible apply OpR.apr);(case hs=>exact fun _=>rfl);(case ha|ht=>exact rfl);(case hr=>first|(with_reducible exact rw0)|(with_reducible exact rw1)|(with_reducible exact rw2)|(with_reducible exact rw3)|(with_reducible exact rw4)|exact rfl);(case hx|hy|hn|hb|hok=>exact rfl);(case hlen=>exact hlX);(case hv=>exact hv);(case hk=>exact kfr);(case hf=>exact leq))))
|((with_reducible apply EvO.u0);(case hx=>first
|((with_reducible apply OpR.bld (cs:=[.t (.int .i64 e.r),.t (.int .i64 e.n),.t (.int .i64 e.t),.t (intsA e.past),.t (.int .i64 e.k),.t (.int .i64 e.a),.t (.int .i64 e.gk),.t (.int .i64 e.gi),.t (.int .i64 e.ge),.t (.int .i64 e.ga),.t (.int .i64 e.to),.t (.int .i64 e.pl),.t (.int .i64 e.se),.t (.int .i64 u.kind),.t (.int .i64 u.cell),.t (.int .i64 u.value)]) (v:=.t (.agg [.int .i64 e.r,.int .i64 e.n,.int .i64 e.t,intsA e.past,.int .i64 e.k,.int .i64 e.a,.int .i64 e.gk,.int .i64 e.gi,.int .i64 e.ge,.int .i64 e.ga,.int .i64 e.to,.int .i64 e.pl,.int .i64 e.se,.int .i64 u.kind,.int .i64 u.cell,.int .i64 u.value])));(case ho=>kernel_rfl);(case h=>kernel_rfl);(case hv=>kernel_rfl))
|((with_reducible apply OpR.bsl (es:=[[.int .i64 e.r,.int .i64 e.n,.int .i64 e.t,intsA e.past,.int .i64 e.k,.int .i64 e.a,.int .i64 e.gk,.int .i64 e.gi,.int .i64 e.ge,.int .i64 e.ga,.int .i64 e.to,.int .i64 e.pl,.int .i64 e.se,.int .i64 u.kind,.int .i64 u.cell,.int .i64 u.value]]));(case hw=>exact rfl);(case ho=>kernel_rfl);(case h=>kernel_rfl))
|exact opq))
|fail)
      refine ⟨by kernel_rfl,?_⟩
      repeat' (first
|((with_reducible apply EvK.text);(try case hm=>exact rfl))
|(with_reducible first|apply thenK_n|apply thenK_e|apply blockK_n|apply blockK_h|apply EvO.nilT)
|((with_reducible apply EvO.u0);(case hx=>exact opq))
|fail)
      exact ⟨(q+1,true),rfl,rfl,by dsimp only;omega,by dsimp only;omega⟩
     ·
      rw [if_neg huc] at hls
      repeat' (first
|((with_reducible apply EvK.text);(try case hm=>exact rfl))
|(with_reducible apply EvO.nil)
|((with_reducible apply EvO.u0);(case hx=>exact opq))
|fail)
      refine ⟨rfl,?_⟩
      repeat' (first
|(with_reducible first|apply EvK.seq|apply EvK.block)
|((with_reducible apply EvK.text);(try case hm=>exact rfl))
|(with_reducible first|apply EvK.skip|apply blockK_n)
|((with_reducible apply EvK.cond_f);(case hc=>exact rfl))
|((with_reducible apply EvO.spd_f);(case hp=>exact fao))
|(with_reducible apply EvO.nilT)
|((with_reducible apply EvO.u0);(case hx=>exact opq))
|fail)
      refine ⟨by kernel_rfl,?_⟩
      exact ⟨rfl,rfl,by have:=hk1.1;omega,by rw [hk1.2,hls]⟩
    ·
     rw [h0.2,lastU_0] at hsn
     repeat' (first
|((with_reducible apply EvK.text);(try case hm=>exact rfl))
|(with_reducible first|apply thenK_n|apply blockK_n|apply EvO.nilT)
|((with_reducible apply EvO.u0);(case hx=>exact opq))
|fail)
     exact ⟨(q+1,false),rfl,by dsimp only;rw [hsn,List.append_nil];rfl,by dsimp only;omega,by dsimp only;omega⟩
   ·
    repeat' (first
|(with_reducible first|apply EvK.seq|apply EvK.block)
|((with_reducible apply EvK.text);(try case hm=>exact rfl))
|(with_reducible first|apply EvK.skip|apply thenK_n)
|((with_reducible apply EvK.cond_t);(case hc=>exact rfl))
|((with_reducible apply EvK.cond_f);(case hc=>exact rfl))
|((with_reducible apply EvO.spd_t);(case hp=>exact fao))
|((with_reducible apply EvO.spn_f);(case hp=>exact fao))
|(with_reducible apply EvO.nilT)
|((with_reducible apply EvO.u0);(case hx=>first
|(exact oqX kb)
|exact opq))
|fail)
    refine EvK.range (yss:=bwd (udE U) U.length) (wh:=true) (fr1:=[.box false 30 ((mdC m).map .t),.box false 3 [.t (.int .i64 c)],.box false 120 [.ls 3],.row false true 16 (wrE X),.box false 36 (([.int .i64 e.r,.int .i64 e.n,.int .i64 e.t,intsA e.past,.int .i64 e.k,.int .i64 e.a,.int .i64 e.gk,.int .i64 e.gi,.int .i64 e.ge,.int .i64 e.ga,.int .i64 e.to,.int .i64 e.pl,.int .i64 e.se]:List AV).map .t),.box true 59 [.t (.arr (udE U))]]) rfl rfl (seq_val hU) rfl ?_
    refine EvRs.bwd2 (mkEnv [(3,.lp 0 0),(5,.lp 1 0),(7,.lp 2 0),(9,.lp 4 0),(12,.t (.arr (evsE l))),(13,.t (.int .i64 (l.length:Int))),(14,.t (.int .i64 (q:Int)))]) [.box false 30 ((mdC m).map .t),.box false 3 [.t (.int .i64 c)],.box false 120 [.ls 3],.row false true 16 (wrE X),.box false 36 (([.int .i64 e.r,.int .i64 e.n,.int .i64 e.t,intsA e.past,.int .i64 e.k,.int .i64 e.a,.int .i64 e.gk,.int .i64 e.gi,.int .i64 e.ge,.int .i64 e.ga,.int .i64 e.to,.int .i64 e.pl,.int .i64 e.se]:List AV).map .t),.box true 59 [.t (.arr (udE U))]] (fun k=>k≤U.length∧lastU c U U.length=lastU c U k) (fun h0=>?_) (fun k hk1=>?_) (fun k hk1=>?_) (fun h0=>?_)
    ·
     rw [h0,lastU_0] at hsn
     repeat' (first
|((with_reducible apply EvK.text);(try case hm=>exact rfl))
|(with_reducible first|apply thenK_n|apply blockK_n|apply EvO.nilT)
|((with_reducible apply EvO.u0);(case hx=>exact opq))
|fail)
     exact ⟨(q+1,true),rfl,by dsimp only;rw [hsn,List.append_nil];rfl,by dsimp only;omega,by dsimp only;omega⟩
    ·
     obtain ⟨u,hu⟩:=get_of_lt (xs:=U) (k:=k) (by omega)
     have hg:((udE U)[k]?.getD [])=[.int .i64 u.kind,.int .i64 u.cell,.int .i64 u.value]:=by rw [udE_get hu];rfl
     have hls:=lastU_s (c:=c) hu
     rw [hg]
     refine EvR.mkN [.box false 30 ((mdC m).map .t),.box false 3 [.t (.int .i64 c)],.box false 120 [.ls 3],.row false false 16 (wrE X),.box false 36 (([.int .i64 e.r,.int .i64 e.n,.int .i64 e.t,intsA e.past,.int .i64 e.k,.int .i64 e.a,.int .i64 e.gk,.int .i64 e.gi,.int .i64 e.ge,.int .i64 e.ga,.int .i64 e.to,.int .i64 e.pl,.int .i64 e.se]:List AV).map .t),.box true 59 [.t (.arr (udE U))]] rfl rfl rfl ?_
     by_cases huc:u.cell=c
     ·
      rw [if_pos huc] at hls
      rw [hk1,hls] at hsn
      have hv:wrE X++[[.int .i64 e.r,.int .i64 e.n,.int .i64 e.t,intsA e.past,.int .i64 e.k,.int .i64 e.a,.int .i64 e.gk,.int .i64 e.gi,.int .i64 e.ge,.int .i64 e.ga,.int .i64 e.to,.int .i64 e.pl,.int .i64 e.se,.int .i64 u.kind,.int .i64 u.cell,.int .i64 u.value]]=wrE (wrs m (l.take (q+1)) c):=by rw [hsn];exact wrE_app _ [⟨e,u⟩]
      repeat' (first
|((with_reducible apply EvK.text);(try case hm=>exact rfl))
|(with_reducible apply EvO.nil)
|((with_reducible apply EvO.u0);(case hx=>exact opq))
|fail)
      refine ⟨rfl,?_⟩
      repeat' (first
|(with_reducible first|apply EvK.seq|apply EvK.block)
|((with_reducible apply EvK.text);(try case hm=>exact rfl))
|(with_reducible apply EvK.exit)
|((with_reducible apply blockK_m);(case hj=>exact rfl))
|((with_reducible apply EvK.cond_t);(case hc=>exact rfl))
|((with_reducible apply EvO.spd_t);(case hp=>exact fao))
|(with_reducible apply EvO.nilT)
|((with_reducible apply EvO.u);(case hx=>((with_reducible apply OpR.apr);(case hs=>exact fun _=>rfl);(case ha|ht=>exact rfl);(case hr=>first|(with_reducible exact rw0)|(with_reducible exact rw1)|(with_reducible exact rw2)|(with_reducible exact rw3)|(with_reducible exact rw4)|exact rfl);(case hx|hy|hn|hb|hok=>exact rfl);(case hlen=>exact hlX);(case hv=>exact hv);(case hk=>exact kfr);(case hf=>exact leq))))
|((with_reducible apply EvO.u0);(case hx=>first
|((with_reducible apply OpR.bld (cs:=[.t (.int .i64 e.r),.t (.int .i64 e.n),.t (.int .i64 e.t),.t (intsA e.past),.t (.int .i64 e.k),.t (.int .i64 e.a),.t (.int .i64 e.gk),.t (.int .i64 e.gi),.t (.int .i64 e.ge),.t (.int .i64 e.ga),.t (.int .i64 e.to),.t (.int .i64 e.pl),.t (.int .i64 e.se),.t (.int .i64 u.kind),.t (.int .i64 u.cell),.t (.int .i64 u.value)]) (v:=.t (.agg [.int .i64 e.r,.int .i64 e.n,.int .i64 e.t,intsA e.past,.int .i64 e.k,.int .i64 e.a,.int .i64 e.gk,.int .i64 e.gi,.int .i64 e.ge,.int .i64 e.ga,.int .i64 e.to,.int .i64 e.pl,.int .i64 e.se,.int .i64 u.kind,.int .i64 u.cell,.int .i64 u.value])));(case ho=>kernel_rfl);(case h=>kernel_rfl);(case hv=>kernel_rfl))
|((with_reducible apply OpR.bsl (es:=[[.int .i64 e.r,.int .i64 e.n,.int .i64 e.t,intsA e.past,.int .i64 e.k,.int .i64 e.a,.int .i64 e.gk,.int .i64 e.gi,.int .i64 e.ge,.int .i64 e.ga,.int .i64 e.to,.int .i64 e.pl,.int .i64 e.se,.int .i64 u.kind,.int .i64 u.cell,.int .i64 u.value]]));(case hw=>exact rfl);(case ho=>kernel_rfl);(case h=>kernel_rfl))
|exact opq))
|fail)
      refine ⟨by kernel_rfl,?_⟩
      repeat' (first
|((with_reducible apply EvK.text);(try case hm=>exact rfl))
|(with_reducible first|apply thenK_n|apply thenK_e|apply blockK_n|apply blockK_h|apply EvO.nilT)
|((with_reducible apply EvO.u0);(case hx=>exact opq))
|fail)
      exact ⟨(q+1,true),rfl,rfl,by dsimp only;omega,by dsimp only;omega⟩
     ·
      rw [if_neg huc] at hls
      repeat' (first
|((with_reducible apply EvK.text);(try case hm=>exact rfl))
|(with_reducible apply EvO.nil)
|((with_reducible apply EvO.u0);(case hx=>exact opq))
|fail)
      refine ⟨rfl,?_⟩
      repeat' (first
|(with_reducible first|apply EvK.seq|apply EvK.block)
|((with_reducible apply EvK.text);(try case hm=>exact rfl))
|(with_reducible first|apply EvK.skip|apply blockK_n)
|((with_reducible apply EvK.cond_f);(case hc=>exact rfl))
|((with_reducible apply EvO.spd_f);(case hp=>exact fao))
|(with_reducible apply EvO.nilT)
|((with_reducible apply EvO.u0);(case hx=>exact opq))
|fail)
      refine ⟨by kernel_rfl,?_⟩
      exact ⟨rfl,rfl,by omega,by rw [hk1,hls]⟩
    ·
     obtain ⟨u,hu⟩:=get_of_lt (xs:=U) (k:=k) (by have:=hk1.1;omega)
     have hg:((udE U)[k]?.getD [])=[.int .i64 u.kind,.int .i64 u.cell,.int .i64 u.value]:=by rw [udE_get hu];rfl
     have hls:=lastU_s (c:=c) hu
     rw [hg]
     refine EvR.mkN [.box false 30 ((mdC m).map .t),.box false 3 [.t (.int .i64 c)],.box false 120 [.ls 3],.row false false 16 (wrE X),.box false 36 (([.int .i64 e.r,.int .i64 e.n,.int .i64 e.t,intsA e.past,.int .i64 e.k,.int .i64 e.a,.int .i64 e.gk,.int .i64 e.gi,.int .i64 e.ge,.int .i64 e.ga,.int .i64 e.to,.int .i64 e.pl,.int .i64 e.se]:List AV).map .t),.box true 59 [.t (.arr (udE U))]] rfl rfl rfl ?_
     by_cases huc:u.cell=c
     ·
      rw [if_pos huc] at hls
      rw [hk1.2,hls] at hsn
      have hv:wrE X++[[.int .i64 e.r,.int .i64 e.n,.int .i64 e.t,intsA e.past,.int .i64 e.k,.int .i64 e.a,.int .i64 e.gk,.int .i64 e.gi,.int .i64 e.ge,.int .i64 e.ga,.int .i64 e.to,.int .i64 e.pl,.int .i64 e.se,.int .i64 u.kind,.int .i64 u.cell,.int .i64 u.value]]=wrE (wrs m (l.take (q+1)) c):=by rw [hsn];exact wrE_app _ [⟨e,u⟩]
      repeat' (first
|((with_reducible apply EvK.text);(try case hm=>exact rfl))
|(with_reducible apply EvO.nil)
|((with_reducible apply EvO.u0);(case hx=>exact opq))
|fail)
      refine ⟨rfl,?_⟩
      repeat' (first
|(with_reducible first|apply EvK.seq|apply EvK.block)
|((with_reducible apply EvK.text);(try case hm=>exact rfl))
|(with_reducible apply EvK.exit)
|((with_reducible apply blockK_m);(case hj=>exact rfl))
|((with_reducible apply EvK.cond_t);(case hc=>exact rfl))
|((with_reducible apply EvO.spd_t);(case hp=>exact fao))
|(with_reducible apply EvO.nilT)
|((with_reducible apply EvO.u);(case hx=>((with_reducible apply OpR.apr);(case hs=>exact fun _=>rfl);(case ha|ht=>exact rfl);(case hr=>first|(with_reducible exact rw0)|(with_reducible exact rw1)|(with_reducible exact rw2)|(with_reducible exact rw3)|(with_reducible exact rw4)|exact rfl);(case hx|hy|hn|hb|hok=>exact rfl);(case hlen=>exact hlX);(case hv=>exact hv);(case hk=>exact kfr);(case hf=>exact leq))))
|((with_reducible apply EvO.u0);(case hx=>first
|((with_reducible apply OpR.bld (cs:=[.t (.int .i64 e.r),.t (.int .i64 e.n),.t (.int .i64 e.t),.t (intsA e.past),.t (.int .i64 e.k),.t (.int .i64 e.a),.t (.int .i64 e.gk),.t (.int .i64 e.gi),.t (.int .i64 e.ge),.t (.int .i64 e.ga),.t (.int .i64 e.to),.t (.int .i64 e.pl),.t (.int .i64 e.se),.t (.int .i64 u.kind),.t (.int .i64 u.cell),.t (.int .i64 u.value)]) (v:=.t (.agg [.int .i64 e.r,.int .i64 e.n,.int .i64 e.t,intsA e.past,.int .i64 e.k,.int .i64 e.a,.int .i64 e.gk,.int .i64 e.gi,.int .i64 e.ge,.int .i64 e.ga,.int .i64 e.to,.int .i64 e.pl,.int .i64 e.se,.int .i64 u.kind,.int .i64 u.cell,.int .i64 u.value])));(case ho=>kernel_rfl);(case h=>kernel_rfl);(case hv=>kernel_rfl))
|((with_reducible apply OpR.bsl (es:=[[.int .i64 e.r,.int .i64 e.n,.int .i64 e.t,intsA e.past,.int .i64 e.k,.int .i64 e.a,.int .i64 e.gk,.int .i64 e.gi,.int .i64 e.ge,.int .i64 e.ga,.int .i64 e.to,.int .i64 e.pl,.int .i64 e.se,.int .i64 u.kind,.int .i64 u.cell,.int .i64 u.value]]));(case hw=>exact rfl);(case ho=>kernel_rfl);(case h=>kernel_rfl))
|exact opq))
|fail)
      refine ⟨by kernel_rfl,?_⟩
      repeat' (first
|((with_reducible apply EvK.text);(try case hm=>exact rfl))
|(with_reducible first|apply thenK_n|apply thenK_e|apply blockK_n|apply blockK_h|apply EvO.nilT)
|((with_reducible apply EvO.u0);(case hx=>exact opq))
|fail)
      exact ⟨(q+1,true),rfl,rfl,by dsimp only;omega,by dsimp only;omega⟩
     ·
      rw [if_neg huc] at hls
      repeat' (first
|((with_reducible apply EvK.text);(try case hm=>exact rfl))
|(with_reducible apply EvO.nil)
|((with_reducible apply EvO.u0);(case hx=>exact opq))
|fail)
      refine ⟨rfl,?_⟩
      repeat' (first
|(with_reducible first|apply EvK.seq|apply EvK.block)
|((with_reducible apply EvK.text);(try case hm=>exact rfl))
|(with_reducible first|apply EvK.skip|apply blockK_n)
|((with_reducible apply EvK.cond_f);(case hc=>exact rfl))
|((with_reducible apply EvO.spd_f);(case hp=>exact fao))
|(with_reducible apply EvO.nilT)
|((with_reducible apply EvO.u0);(case hx=>exact opq))
|fail)
      refine ⟨by kernel_rfl,?_⟩
      exact ⟨rfl,rfl,by have:=hk1.1;omega,by rw [hk1.2,hls]⟩
    ·
     rw [h0.2,lastU_0] at hsn
     repeat' (first
|((with_reducible apply EvK.text);(try case hm=>exact rfl))
|(with_reducible first|apply thenK_n|apply blockK_n|apply EvO.nilT)
|((with_reducible apply EvO.u0);(case hx=>exact opq))
|fail)
     exact ⟨(q+1,true),rfl,by dsimp only;rw [hsn,List.append_nil];rfl,by dsimp only;omega,by dsimp only;omega⟩
  ·
   rw [updOf_no hk] at hsn
   repeat' (first
|(with_reducible first|apply EvK.seq|apply EvK.block)
|((with_reducible apply EvK.text);(try case hm=>exact rfl))
|(with_reducible first|apply EvK.skip|apply EvK.exit|apply thenK_n|apply thenK_e|apply blockK_h)
|((with_reducible apply EvK.cond_t);(case hc=>exact rfl))
|((with_reducible apply EvO.spd_t);(case hp=>exact fao))
|((with_reducible apply EvO.spn_t);(case hp=>exact fao))
|(with_reducible apply EvO.nilT)
|((with_reducible apply EvO.u0);(case hx=>exact opq))
|fail)
   exact ⟨(q+1,tch),rfl,by dsimp only;rw [hsn,List.append_nil];rfl,by dsimp only;omega,by dsimp only;omega⟩
 ·
  rw [List.take_of_length_le h3]
  repeat' (first
|(with_reducible apply EvK.seq)
|((with_reducible apply EvK.text);(try case hm=>exact rfl))
|(with_reducible first|apply EvK.exit|apply EvK.ret|apply thenK_n|apply thenK_e|apply blockK_h)
|((with_reducible apply EvK.cond_f);(case hc=>exact rfl))
|((with_reducible apply EvO.spd_f);(case hp=>exact fao))
|(with_reducible apply EvO.nilT)
|((with_reducible apply EvO.u0);(case hx=>exact opq))
|fail)
  exact ⟨.inr rfl,rfl⟩
end Go.Proofs.YtgbfedgghjcdcaaGreatDoor
