/- Law 32: events before others,clocks that contain others. No condition. -/
import Derived.Test.YtgbfedgghjcdcaaGreatDoorTD
import Derived.Test.YtgbfedgghjcdcaaGreatDoorTW
import Derived.Test.YtgbfedgghjcdcaaGreatDoorTS
set_option linter.unusedSimpArgs false
set_option linter.unusedVariables false
set_option linter.unusedSectionVars false
namespace Go.Proofs.YtgbfedgghjcdcaaGreatDoor
open Go.RowKit
set_option maxRecDepth 100000
set_option maxHeartbeats 8000000
theorem evA_cells (e:Ev):evA e=.agg [.int .i64 e.r,.int .i64 e.n,.int .i64 e.t,intsA e.past,.int .i64 e.k,.int .i64 e.a,.int .i64 e.gk,.int .i64 e.gi,.int .i64 e.ge,.int .i64 e.ga,.int .i64 e.to,.int .i64 e.pl,.int .i64 e.se]:=rfl
theorem name_c (e:Ev):Cl cfg 59 [.t (evA e)] [] (.t (.agg [.int .i64 e.r,.int .i64 e.n])) []:=by
 rw [evA_cells]
 refine Cl.of_body rfl Tryz.func59 rfl rfl rfl ?_
 repeat' (first
|(with_reducible apply EvK.seq)
|((with_reducible apply EvK.text);(try case hm=>exact rfl))
|(with_reducible first|apply EvK.ret|apply EvO.nilT)
|((with_reducible apply EvO.u0);(case hx=>exact opq))
|fail)
 exact ⟨.inr rfl,rfl⟩
theorem contained_c {a b:List Int} (ha:a.length≤140737488351232) (hb:b.length≤140737488351232):Cl cfg 83 [.t (intsA a),.t (intsA b)] [] (.t (.bool (alikeB [a,b] && insideB a b))) []:=by
 have hc:=compare_c ha hb
 refine Cl.of_body rfl Tryz.func83 rfl rfl rfl ?_
 cases h1:alikeB [a,b] with
 | false=>
  have e:compareS a b=(0,1):=by unfold compareS;rw [h1];rfl
  rw [e] at hc
  repeat' (first
|(with_reducible apply EvK.seq)
|((with_reducible apply EvK.text);(try case hm=>exact rfl))
|(with_reducible apply EvK.ret)
|((with_reducible apply EvO.spd_f);(case hp=>exact fao))
|(with_reducible apply EvO.nilT)
|((with_reducible apply EvO.gf);(case hW=>exact rfl))
|((with_reducible apply EvO.u0);(case hx=>first
|(exact oqF hc)
|exact opq))
|fail)
  exact ⟨.inr rfl,rfl⟩
 | true=>
  cases h2:insideB a b with
  | false=>
   cases h3:insideB b a with
   | false=>
    have e:compareS a b=(3,0):=by unfold compareS;rw [h1,h2,h3];rfl
    rw [e] at hc
    repeat' (first
|(with_reducible apply EvK.seq)
|((with_reducible apply EvK.text);(try case hm=>exact rfl))
|(with_reducible apply EvK.ret)
|((with_reducible apply EvO.spd_t);(case hp=>exact fao))
|((with_reducible apply EvO.spd_yf);(case hp=>exact fao))
|(with_reducible apply EvO.nilT)
|((with_reducible apply EvO.gt0);(case hW=>exact rfl);(case hx=>exact opq))
|((with_reducible apply EvO.u0);(case hx=>first
|(exact oqF hc)
|exact opq))
|fail)
    exact ⟨.inr rfl,rfl⟩
   | true=>
    have e:compareS a b=(2,0):=by unfold compareS;rw [h1,h2,h3];rfl
    rw [e] at hc
    repeat' (first
|(with_reducible apply EvK.seq)
|((with_reducible apply EvK.text);(try case hm=>exact rfl))
|(with_reducible apply EvK.ret)
|((with_reducible apply EvO.spd_t);(case hp=>exact fao))
|((with_reducible apply EvO.spd_yf);(case hp=>exact fao))
|(with_reducible apply EvO.nilT)
|((with_reducible apply EvO.gt0);(case hW=>exact rfl);(case hx=>exact opq))
|((with_reducible apply EvO.u0);(case hx=>first
|(exact oqF hc)
|exact opq))
|fail)
    exact ⟨.inr rfl,rfl⟩
  | true=>
   cases h3:insideB b a with
   | false=>
    have e:compareS a b=(1,0):=by unfold compareS;rw [h1,h2,h3];rfl
    rw [e] at hc
    repeat' (first
|(with_reducible apply EvK.seq)
|((with_reducible apply EvK.text);(try case hm=>exact rfl))
|(with_reducible apply EvK.ret)
|((with_reducible apply EvO.spd_t);(case hp=>exact fao))
|((with_reducible apply EvO.spd_yt);(case hp=>exact fao))
|((with_reducible apply EvO.spd_yf);(case hp=>exact fao))
|(with_reducible apply EvO.nilT)
|((with_reducible apply EvO.gt0);(case hW=>exact rfl);(case hx=>exact opq))
|((with_reducible apply EvO.u0);(case hx=>first
|(exact oqF hc)
|exact opq))
|fail)
    exact ⟨.inr rfl,rfl⟩
   | true=>
    have e:compareS a b=(0,0):=by unfold compareS;rw [h1,h2,h3];rfl
    rw [e] at hc
    repeat' (first
|(with_reducible apply EvK.seq)
|((with_reducible apply EvK.text);(try case hm=>exact rfl))
|(with_reducible apply EvK.ret)
|((with_reducible apply EvO.spd_t);(case hp=>exact fao))
|((with_reducible apply EvO.spd_yt);(case hp=>exact fao))
|(with_reducible apply EvO.nilT)
|((with_reducible apply EvO.gf);(case hW=>exact rfl))
|((with_reducible apply EvO.gt0);(case hW=>exact rfl);(case hx=>exact opq))
|((with_reducible apply EvO.u0);(case hx=>first
|(exact oqF hc)
|exact opq))
|fail)
    exact ⟨.inr rfl,rfl⟩
theorem ebefore_c (a b:Ev) (hb:b.past.length≤140737488351232):Cl cfg 56 [.t (evA a),.t (evA b)] [] (.t (.bool (hasS b.past a.r a.n))) []:=by
 have hn:=name_c a
 have hh:=has_c (a:=b.past) (r:=a.r) (n:=a.n) hb
 rw [evA_cells b]
 refine Cl.of_body rfl Tryz.func56 rfl rfl rfl ?_
 repeat' (first
|(with_reducible apply EvK.seq)
|((with_reducible apply EvK.text);(try case hm=>exact rfl))
|((with_reducible apply EvK.drawn);(case hm=>exact rfl))
|(with_reducible first|apply EvK.ret|apply EvO.nilT)
|((with_reducible apply EvO.u0);(case hx=>first
|(exact oqF hn)
|(exact oqF hh)
|exact opq))
|fail)
 exact ⟨.inr rfl,rfl⟩
end Go.Proofs.YtgbfedgghjcdcaaGreatDoor
namespace Go.Proofs.YtgbfedgghjcdcaaGreatDoor
open Go.RowKit
set_option maxRecDepth 100000
set_option maxHeartbeats 16000000
theorem mt0:mapT cfg.P 125=none:=by kernel_rfl
theorem mt1:mapTS cfg.P 125=some (36,101,2):=by kernel_rfl
def evsE (l:List Ev):List (List AV):=l.map evCs
theorem evsE_len (l:List Ev):(evsE l).length=l.length:=List.length_map _
theorem evsE_get {l:List Ev} {k:Nat} {e:Ev} (h:l[k]?=some e):(evsE l)[k]?=some [.int .i64 e.r,.int .i64 e.n,.int .i64 e.t,intsA e.past,.int .i64 e.k,.int .i64 e.a,.int .i64 e.gk,.int .i64 e.gi,.int .i64 e.ge,.int .i64 e.ga,.int .i64 e.to,.int .i64 e.pl,.int .i64 e.se]:=by
 unfold evsE;rw [List.getElem?_map,h];rfl
def nmK (l:List Ev):List AV:=l.map fun e=>.agg [.int .i64 e.r,.int .i64 e.n]
def evV (l:List Ev):List SV:=l.map fun e=>.t (evA e)
theorem evV_eq (l:List Ev):evV l=(l.map evA).map .t:=by simp [evV]
theorem frm {σ:Nat→Option Nat} {ks:List AV} {l:List Ev} {bs bs':Fr} (h:bs=bs'):(Lb.map false ks (SV.subL σ (evV l))::bs)=Lb.map false ks (evV l)::bs':=by rw [evV_eq,subL_trees,h]
theorem dot_eq (a b a' b':Int):eqC cfg.P 20 101 [.int .i64 a,.int .i64 b] [.int .i64 a',.int .i64 b']=some (decide (a=a') && (decide (b=b') && true)):=by kernel_rfl
theorem find_none {r n:Int}:∀ (l:List Ev) (i:Nat),(∀ e∈l,nm e≠(r,n))→findS cfg.P 101 [.int .i64 r,.int .i64 n] (nmK l) i=some none
 | [],i,_=>rfl
 | e::l,i,h=>by
  have h0:=h e (by simp)
  have:(decide (r=e.r) && (decide (n=e.n) && true))=false:=by
   rw [← Bool.not_eq_true]
   intro hh
   simp only [Bool.and_eq_true,decide_eq_true_eq,and_true] at hh
   exact h0 (by simp [nm,hh.1,hh.2])
  show findS cfg.P _ _ (.agg [.int .i64 e.r,.int .i64 e.n]::nmK l) i=_
  unfold findS
  simp only [dot_eq,this]
  exact find_none l (i+1) (fun x hx=>h x (by simp [hx]))
theorem find_some {r n:Int}:∀ (l:List Ev) (i k:Nat) (e:Ev),l[k]?=some e→nm e=(r,n)→(l.map nm).Nodup→findS cfg.P 101 [.int .i64 r,.int .i64 n] (nmK l) i=some (some (i+k))
 | [],_,k,e,h,_,_=>by simp at h
 | x::l,i,k,e,h,he,hn=>by
  rw [List.map_cons,List.nodup_cons] at hn
  show findS cfg.P _ _ (.agg [.int .i64 x.r,.int .i64 x.n]::nmK l) i=_
  unfold findS
  cases k with
  | zero=>
   have h:x=e:=by simpa using h
   subst h
   simp only [nm,Prod.mk.injEq] at he
   have:(decide (r=x.r) && (decide (n=x.n) && true))=true:=by simp [he.1,he.2]
   simp only [dot_eq,this]
   rfl
  | succ k=>
   have hk:l[k]?=some e:=by simpa using h
   have:(decide (r=x.r) && (decide (n=x.n) && true))=false:=by
    rw [← Bool.not_eq_true]
    intro hh
    simp only [Bool.and_eq_true,decide_eq_true_eq,and_true] at hh
    exact hn.1 (List.mem_map.2 ⟨e,List.mem_of_getElem? hk,by rw [he];simp [nm,hh.1,hh.2]⟩)
   simp only [dot_eq,this]
   rw [find_some l (i+1) k e hk he hn.2]
   congr 2;omega
theorem nodup_get {l:List Ev} (hn:(l.map nm).Nodup) {i j:Nat} {x y:Ev} (hi:l[i]?=some x) (hj:l[j]?=some y) (hij:i < j):nm x≠nm y:=by
 obtain ⟨h1,rfl⟩:=List.getElem?_eq_some_iff.1 hi
 obtain ⟨h2,rfl⟩:=List.getElem?_eq_some_iff.1 hj
 have:=List.pairwise_iff_getElem.1 hn i j (by simpa using h1) (by simpa using h2) hij
 simpa using this
theorem zE:zeroS cfg.P 36=some (.agg [.t (.int .i64 0),.t (.int .i64 0),.t (.int .i64 0),.nil,.t (.int .i64 0),.t (.int .i64 0),.t (.int .i64 0),.t (.int .i64 0),.t (.int .i64 0),.t (.int .i64 0),.t (.int .i64 0),.t (.int .i64 0),.t (.int .i64 0)]):=by kernel_rfl
theorem mem_take_get' {α:Type} {l:List α} {i:Nat} {x:α} (h:x∈l.take i):∃ k,k < i∧l[k]?=some x:=by
 obtain ⟨k,hk⟩:=List.mem_iff_getElem?.1 h
 rw [List.getElem?_take] at hk
 split at hk
 ·exact ⟨k,by assumption,hk⟩
 ·cases hk
theorem take_succ' {α:Type} {l:List α} {q:Nat} {x:α} (h:l[q]?=some x):l.take (q+1)=l.take q++[x]:=by
 rw [List.take_add_one,h];rfl
structure Cl1 (l:List Ev) (m q:Nat):Prop where
 form:∀ e∈l.take q,formB e=true
 alike:∀ e∈l.take q,e.past.length=m
 names:((l.take q).map nm).Nodup
theorem Cl1.zero (l:List Ev) (m:Nat):Cl1 l m 0:=⟨fun e h=>by simp at h,fun e h=>by simp at h,by simp⟩
theorem Cl1.step {l:List Ev} {m q:Nat} {e:Ev} (h:Cl1 l m q) (he:l[q]?=some e) (hf:formB e=true) (ha:e.past.length=m) (hn:∀ x∈l.take q,nm x≠nm e):Cl1 l m (q+1) where
 form:=fun x hx=>by
  rw [take_succ' he,List.mem_append,List.mem_singleton] at hx
  rcases hx with hx|rfl
  ·exact h.form x hx
  ·exact hf
 alike:=fun x hx=>by
  rw [take_succ' he,List.mem_append,List.mem_singleton] at hx
  rcases hx with hx|rfl
  ·exact h.alike x hx
  ·exact ha
 names:=by
  rw [take_succ' he,List.map_append,List.nodup_append]
  refine ⟨h.names,by simp,fun a ha b hb=>?_⟩
  obtain ⟨x,hx,rfl⟩:=List.mem_map.1 ha
  simp only [List.map_cons,List.map_nil,List.mem_singleton] at hb
  subst hb
  exact hn x hx
theorem alike_of {a b:List Int} (ha:validB a=true) (hb:validB b=true) (h:a.length=b.length):alikeB [a,b]=true:=by
 simp [alikeB,al1,ha,hb,h]
def Dn (l:List Ev) (e:Ev) (r n:Int):Prop:=∃ x∈l,nm x=(r,n)∧insideB x.past e.past=true∧x.t < e.t
theorem hasS_at {c:List Int} {k:Nat} {n m:Int} (hv:validB c=true) (hk:c[k]?=some m) (h1:1≤n) (h2:n≤m):hasS c (k:Int) n=true:=by
 have h3:=lt_of_get hk
 have h4:=getD_get hk
 simp only [hasS,hv,Bool.true_and,Bool.and_eq_true,decide_eq_true_eq,Int.toNat_natCast,h4]
 exact ⟨by omega,by omega,h1,h2⟩
theorem hasS_of {c:List Int} {r n:Int} (h:hasS c r n=true):∃ (k:Nat) (m:Int),r=k∧c[k]?=some m∧1≤n∧n≤m:=by
 simp only [hasS,Bool.and_eq_true,decide_eq_true_eq] at h
 obtain ⟨_,h0,h1,h2,h3⟩:=h
 obtain ⟨m,hm⟩:=get_of_lt (xs:=c) (k:=r.toNat) (by omega)
 rw [getD_get hm] at h3
 exact ⟨r.toNat,m,by omega,hm,h2,h3⟩
theorem closed_c {l:List Ev} (hl:l.length≤140737488351232) (hp:∀ e∈l,e.past.length≤140737488351232):Cl cfg 37 [.t (.arr (evsE l))] [] (.t (.bool (closedB l))) []:=by
 have hlE:=evsE_len l
 refine Cl.of_body rfl Tryz.func37 rfl rfl rfl ?_
 by_cases hlen:l.length≤1024
 ·
  obtain ⟨m,hm⟩:∃ m,(l.headD ⟨0,0,0,[],0,0,0,0,0,0,0,0,0⟩).past.length=m:=⟨_,rfl⟩
  repeat' (first
|(with_reducible first|apply EvK.seq|apply EvK.block)
|((with_reducible apply EvK.text);(try case hm=>exact rfl))
|(with_reducible first|apply EvK.skip|apply thenK_n)
|((with_reducible apply EvK.cond_f);(case hc=>exact rfl))
|((with_reducible apply EvO.spd_f);(case hp=>exact fao))
|(with_reducible apply EvO.nilT)
|((with_reducible apply EvO.u0);(case hx=>exact opq))
|fail)
  apply EvK.loopV
  case ho=>exact rfl
  case hp=>exact rfl
  case hl=>exact rfl
  case hs=>exact slt
  refine EvL.indF (fun q:Nat=>[(21,.t (.int .i64 (q:Int)))]) (fun q=>[.map false (nmK (l.take q)) (evV (l.take q))]) (fun q=>q≤l.length∧Cl1 l m q) (fun q=>l.length - q) 0 rfl rfl ⟨by omega,Cl1.zero l m⟩ (fun q hq=>?_)
  obtain ⟨h1,h2⟩:=hq
  rcases Nat.lt_or_ge q l.length with h3|h3
  ·
   obtain ⟨e,he⟩:=get_of_lt h3
   have hmem:=List.mem_of_getElem? he
   have hc:=evsE_get he
   have kn:=name_c e
   have kf:=formed_c e (hp e hmem)
   obtain ⟨e0,he0⟩:=get_of_lt (xs:=l) (k:=0) (by omega)
   have hc0:=evsE_get he0
   have hm0:e0.past.length=m:=by rw [← hm,List.headD_eq_head?_getD,List.head?_eq_getElem?,he0];rfl
   have hle:=intsE_len e.past
   have hle0:=intsE_len e0.past
   by_cases hd:∃ x∈l.take q,nm x=nm e
   ·
    obtain ⟨x,hx,hxe⟩:=hd
    obtain ⟨k,hk,hkx⟩:=mem_take_get' hx
    have hkq:(l.take q)[k]?=some x:=by rw [List.getElem?_take,if_pos hk,hkx]
    have hfind:=find_some (r:=e.r) (n:=e.n) (l.take q) 0 k x hkq hxe h2.names
    have hget:(evV (l.take q))[0+k]?=some (.t (evA x)):=by rw [Nat.zero_add];unfold evV;rw [List.getElem?_map,hkq];rfl
    have hno:closedB l=false:=closedB_f fun h=>by
     have hN:=h.names
     have h4:=nodup_get hN hkx he hk
     exact h4 hxe
    rw [hno]
    repeat' (first
|(with_reducible first|apply EvK.seq|apply EvK.block)
|((with_reducible apply EvK.text);(try case hm=>exact rfl))
|((with_reducible apply EvK.drawn);(case hm=>exact rfl))
|(with_reducible first|apply EvK.skip|apply EvK.ret|apply thenK_n|apply thenK_r|apply blockK_r)
|((with_reducible apply EvK.cond_t);(case hc=>exact rfl))
|((with_reducible apply EvO.spd_t);(case hp=>exact fao))
|(with_reducible apply EvO.nilT)
|((with_reducible apply EvO.gf);(case hW=>exact rfl))
|((with_reducible apply EvO.u0);(case hx=>first
|((with_reducible apply OpR.lksi);(case h0=>exact mt0);(case hm=>exact mt1);(case hk|hn|ho=>exact rfl);(case hf=>exact hfind);(case hz=>exact hget);(case hv=>exact rfl))
|(exact oqF kn)
|exact opq))
|fail)
    all_goals exact ⟨.inr rfl,rfl⟩
   ·
    have hfind:=find_none (r:=e.r) (n:=e.n) (l.take q) 0 (fun x hx h=>hd ⟨x,hx,h⟩)
    have hks:nmK (l.take q)++[.agg [.int .i64 e.r,.int .i64 e.n]]=nmK (l.take (q+1)):=by rw [take_succ' he];simp [nmK]
    have hvs:evV (l.take q)++[.t (evA e)]=evV (l.take (q+1)):=by rw [take_succ' he];simp [evV]
    cases hfe:formB e with
    | false=>
     rw [hfe] at kf
     have hno:closedB l=false:=closedB_f fun h=>by
      have:=h.form e hmem
      rw [hfe] at this;cases this
     rw [hno]
     repeat' (first
|(with_reducible first|apply EvK.seq|apply EvK.block)
|((with_reducible apply EvK.text);(try case hm=>exact rfl))
|((with_reducible apply EvK.drawn);(case hm=>exact rfl))
|(with_reducible first|apply EvK.skip|apply EvK.ret|apply thenK_n|apply thenK_r|apply blockK_r)
|((with_reducible apply EvK.cond_t);(case hc=>exact rfl))
|((with_reducible apply EvO.spd_t);(case hp=>exact fao))
|(with_reducible apply EvO.nilT)
|((with_reducible apply EvO.gf);(case hW=>exact rfl))
|((with_reducible apply EvO.gt0);(case hW=>exact rfl);(case hx=>first
|(exact oqF kf)
|exact opq))
|((with_reducible apply EvO.u0);(case hx=>first
|((with_reducible apply OpR.lksn);(case h0=>exact mt0);(case hm=>exact mt1);(case hk|hn|ho=>exact rfl);(case hf=>exact hfind);(case hz=>exact zE);(case hv=>exact rfl))
|(exact oqF kn)
|exact opq))
|fail)
     all_goals exact ⟨.inr rfl,rfl⟩
    | true=>
     rw [hfe] at kf
     by_cases hpl:e.past.length=e0.past.length
     ·
      repeat' (first
|(with_reducible first|apply EvK.seq|apply EvK.block)
|((with_reducible apply EvK.text);(try case hm=>exact rfl))
|((with_reducible apply EvK.drawn);(case hm=>exact rfl))
|(with_reducible first|apply EvK.skip|apply thenK_n)
|((with_reducible apply EvK.cond_t);(case hc=>exact rfl))
|((with_reducible apply EvK.cond_f);(case hc=>exact rfl))
|((with_reducible apply EvO.spd_t);(case hp=>exact fao))
|((with_reducible apply EvO.spn_yf);(case hp=>exact fao))
|(with_reducible first|apply EvO.nilT|apply EvO.nilB)
|((with_reducible apply EvO.gt0);(case hW=>exact rfl);(case hx=>first
|(exact oqF kf)
|exact opq))
|((with_reducible apply EvO.u0);(case hx=>first
|((with_reducible apply OpR.lksn);(case h0=>exact mt0);(case hm=>exact mt1);(case hk|hn|ho=>exact rfl);(case hf=>exact hfind);(case hz=>exact zE);(case hv=>exact rfl))
|((with_reducible apply OpR.mps);(case hs=>exact fun _=>rfl);(case h0=>exact mt0);(case hm=>exact mt1);(case ha|hk|hn|hy|hb=>exact rfl);(case hf=>exact hfind);(case hks=>exact hks);(case hvs=>exact hvs);(case hfr=>exact leq))
|(exact oqF kn)
|exact opq))
|fail)
      refine ⟨q+1,rfl,frm rfl,⟨by omega,h2.step he hfe (by omega) (fun x hx h=>hd ⟨x,hx,h⟩)⟩,by omega⟩
     ·
      have hno:closedB l=false:=closedB_f fun h=>hpl (h.alike e hmem e0 (List.mem_of_getElem? he0))
      rw [hno]
      repeat' (first
|(with_reducible first|apply EvK.seq|apply EvK.block)
|((with_reducible apply EvK.text);(try case hm=>exact rfl))
|((with_reducible apply EvK.drawn);(case hm=>exact rfl))
|(with_reducible first|apply EvK.skip|apply EvK.ret|apply thenK_n|apply thenK_r|apply blockK_r)
|((with_reducible apply EvK.cond_t);(case hc=>exact rfl))
|((with_reducible apply EvO.spd_t);(case hp=>exact fao))
|((with_reducible apply EvO.spn_yt);(case hp=>exact fao))
|(with_reducible apply EvO.nilT)
|((with_reducible apply EvO.gt0);(case hW=>exact rfl);(case hx=>first
|(exact oqF kf)
|exact opq))
|((with_reducible apply EvO.u0);(case hx=>first
|((with_reducible apply OpR.lksn);(case h0=>exact mt0);(case hm=>exact mt1);(case hk|hn|ho=>exact rfl);(case hf=>exact hfind);(case hz=>exact zE);(case hv=>exact rfl))
|(exact oqF kn)
|exact opq))
|fail)
      all_goals exact ⟨.inr rfl,rfl⟩
  ·
   have hq:q=l.length:=by omega
   rw [hq] at h2 ⊢
   rw [List.take_of_length_le (Nat.le_refl _)]
   obtain ⟨hform,halike,hnames⟩:=h2
   rw [List.take_of_length_le (Nat.le_refl _)] at hform halike hnames
   have hnot:∀ e∈l,∀ r n,hasS e.past r n=true→¬ Dn l e r n→closedB l=false:=fun e he r n hh hD=>closedB_f fun h=>hD (h.down e he r n hh)
   repeat' (first
|(with_reducible first|apply EvK.seq|apply EvK.block)
|((with_reducible apply EvK.text);(try case hm=>exact rfl))
|(with_reducible first|apply EvK.exit|apply thenK_n|apply thenK_e|apply blockK_h)
|((with_reducible apply EvK.cond_f);(case hc=>exact rfl))
|((with_reducible apply EvO.spd_f);(case hp=>exact fao))
|(with_reducible apply EvO.nilT)
|((with_reducible apply EvO.u0);(case hx=>exact opq))
|fail)
   apply EvK.loopV
   case ho=>exact rfl
   case hp=>exact rfl
   case hl=>exact rfl
   case hs=>exact slt
   refine EvL.ind (fun q:Nat=>[(56,.t (.int .i64 (q:Int)))]) (fun q=>q≤l.length∧∀ e∈l.take q,∀ r n,hasS e.past r n=true→Dn l e r n) (fun q=>l.length - q) 0 rfl ⟨by omega,fun e h=>by simp at h⟩ (fun q hq=>?_)
   obtain ⟨g1,g2⟩:=hq
   rcases Nat.lt_or_ge q l.length with g3|g3
   ·
    obtain ⟨e,he⟩:=get_of_lt g3
    have hmem:=List.mem_of_getElem? he
    have hc:=evsE_get he
    have hle:=intsE_len e.past
    have hv:=form_valid (hform e hmem)
    have h5:e.past.length≤5:=by simp [validB] at hv;omega
    repeat' (first
|(with_reducible first|apply EvK.seq|apply EvK.block)
|((with_reducible apply EvK.text);(try case hm=>exact rfl))
|(with_reducible first|apply EvK.skip|apply thenK_n)
|((with_reducible apply EvK.cond_t);(case hc=>exact rfl))
|((with_reducible apply EvO.spd_t);(case hp=>exact fao))
|(with_reducible apply EvO.nilT)
|((with_reducible apply EvO.u0);(case hx=>exact opq))
|fail)
    apply EvK.loopV
    case ho=>exact rfl
    case hp=>exact rfl
    case hl=>exact rfl
    case hs=>exact slt
    refine EvL.ind (fun r:Nat=>[(63,.t (.int .i64 (r:Int)))]) (fun r=>r≤e.past.length∧∀ (k:Nat) (n:Int),k < r→hasS e.past k n=true→Dn l e k n) (fun r=>e.past.length - r) 0 rfl ⟨by omega,fun k n h=>by omega⟩ (fun r hr=>?_)
    obtain ⟨f1,f2⟩:=hr
    rcases Nat.lt_or_ge r e.past.length with f3|f3
    ·
     obtain ⟨p,hpr⟩:=get_of_lt f3
     have hcp:=intsE_get hpr
     have hob:=ok1_at hv hpr
     repeat' (first
|(with_reducible first|apply EvK.seq|apply EvK.block)
|((with_reducible apply EvK.text);(try case hm=>exact rfl))
|(with_reducible first|apply EvK.skip|apply thenK_n)
|((with_reducible apply EvK.cond_t);(case hc=>exact rfl))
|((with_reducible apply EvO.spd_t);(case hp=>exact fao))
|(with_reducible apply EvO.nilT)
|((with_reducible apply EvO.u0);(case hx=>exact opq))
|fail)
     apply EvK.loopV
     case ho=>exact rfl
     case hp=>exact rfl
     case hl=>exact rfl
     case hs=>exact slt
     refine EvL.ind (fun i:Nat=>[(12,.t (.int .i64 (i:Int)))]) (fun i=>1≤i∧(i:Int)≤p+1∧∀ n:Int,1≤n→n < i→Dn l e r n) (fun i=>(p+1).toNat - i) 1 rfl ⟨by omega,by omega,fun n h1 h2=>by omega⟩ (fun i hi=>?_)
     obtain ⟨d1,d2,d3⟩:=hi
     by_cases hip:(i:Int)≤p
     ·
      have hhas:=hasS_at hv hpr (n:=i) (by omega) hip
      by_cases hex:∃ x∈l,nm x=((r:Int),(i:Int))
      ·
       obtain ⟨x,hx,hxn⟩:=hex
       obtain ⟨k,hk⟩:=List.mem_iff_getElem?.1 hx
       have hfind:=find_some (r:=r) (n:=i) l 0 k x hk hxn hnames
       have hget:(evV l)[0+k]?=some (.t (evA x)):=by rw [Nat.zero_add];unfold evV;rw [List.getElem?_map,hk];rfl
       have kc:=contained_c (hp x hx) (hp e hmem)
       have hal:alikeB [x.past,e.past]=true:=alike_of (form_valid (hform x hx)) hv (by rw [halike x hx,halike e hmem])
       rw [hal,Bool.true_and] at kc
       have huniq:Dn l e r i→insideB x.past e.past=true∧x.t < e.t:=fun ⟨y,hy,hyn,h6,h7⟩=>by
        obtain rfl:=nm_inj hnames hy hx (hyn.trans hxn.symm)
        exact ⟨h6,h7⟩
       cases hin:insideB x.past e.past with
       | false=>
        rw [hin] at kc
        rw [hnot e hmem r i hhas (fun h=>by have:=(huniq h).1;rw [hin] at this;cases this)]
        repeat' (first
|(with_reducible first|apply EvK.seq|apply EvK.block)
|((with_reducible apply EvK.text);(try case hm=>exact rfl))
|(with_reducible first|apply EvK.skip|apply EvK.ret|apply thenK_n|apply thenK_r|apply blockK_r)
|((with_reducible apply EvK.cond_t);(case hc=>exact rfl))
|((with_reducible apply EvO.spd_t);(case hp=>exact fao))
|(with_reducible apply EvO.nilT)
|((with_reducible apply EvO.gf);(case hW=>exact rfl))
|((with_reducible apply EvO.gt0);(case hW=>exact rfl);(case hx=>first
|(exact oqF kc)
|exact opq))
|((with_reducible apply EvO.u0);(case hx=>first
|((with_reducible apply OpR.lksi);(case h0=>exact mt0);(case hm=>exact mt1);(case hk|hn|ho=>exact rfl);(case hf=>exact hfind);(case hz=>exact hget);(case hv=>exact rfl))
|exact opq))
|fail)
        all_goals exact ⟨.inr rfl,rfl⟩
       | true=>
        rw [hin] at kc
        by_cases ht:x.t < e.t
        ·
         repeat' (first
|(with_reducible first|apply EvK.seq|apply EvK.block)
|((with_reducible apply EvK.text);(try case hm=>exact rfl))
|(with_reducible first|apply EvK.skip|apply thenK_n|apply blockK_n)
|((with_reducible apply EvK.cond_t);(case hc=>exact rfl))
|((with_reducible apply EvK.cond_f);(case hc=>exact rfl))
|((with_reducible apply EvO.spd_t);(case hp=>exact fao))
|((with_reducible apply EvO.spd_yf);(case hp=>exact fao))
|(with_reducible apply EvO.nilT)
|((with_reducible apply EvO.gt0);(case hW=>exact rfl);(case hx=>first
|(exact oqF kc)
|exact opq))
|((with_reducible apply EvO.u0);(case hx=>first
|((with_reducible apply OpR.lksi);(case h0=>exact mt0);(case hm=>exact mt1);(case hk|hn|ho=>exact rfl);(case hf=>exact hfind);(case hz=>exact hget);(case hv=>exact rfl))
|exact opq))
|fail)
         refine ⟨i+1,rfl,frm rfl,⟨by omega,by omega,fun n a1 a2=>?_⟩,by omega⟩
         by_cases hni:n < i
         ·exact d3 n a1 hni
         ·obtain rfl:n=i:=by omega
          exact ⟨x,hx,hxn,hin,ht⟩
        ·
         rw [hnot e hmem r i hhas (fun h=>ht (huniq h).2)]
         repeat' (first
|(with_reducible first|apply EvK.seq|apply EvK.block)
|((with_reducible apply EvK.text);(try case hm=>exact rfl))
|(with_reducible first|apply EvK.skip|apply EvK.ret|apply thenK_n|apply thenK_r|apply blockK_r)
|((with_reducible apply EvK.cond_t);(case hc=>exact rfl))
|((with_reducible apply EvO.spd_t);(case hp=>exact fao))
|((with_reducible apply EvO.spd_yt);(case hp=>exact fao))
|(with_reducible apply EvO.nilT)
|((with_reducible apply EvO.gt0);(case hW=>exact rfl);(case hx=>first
|(exact oqF kc)
|exact opq))
|((with_reducible apply EvO.u0);(case hx=>first
|((with_reducible apply OpR.lksi);(case h0=>exact mt0);(case hm=>exact mt1);(case hk|hn|ho=>exact rfl);(case hf=>exact hfind);(case hz=>exact hget);(case hv=>exact rfl))
|exact opq))
|fail)
         all_goals exact ⟨.inr rfl,rfl⟩
      ·
       have hfind:=find_none (r:=r) (n:=i) l 0 (fun x hx h=>hex ⟨x,hx,h⟩)
       rw [hnot e hmem r i hhas (fun ⟨x,hx,h,_⟩=>hex ⟨x,hx,h⟩)]
       repeat' (first
|(with_reducible first|apply EvK.seq|apply EvK.block)
|((with_reducible apply EvK.text);(try case hm=>exact rfl))
|(with_reducible first|apply EvK.skip|apply EvK.ret|apply thenK_n|apply thenK_r|apply blockK_r)
|((with_reducible apply EvK.cond_t);(case hc=>exact rfl))
|((with_reducible apply EvO.spd_t);(case hp=>exact fao))
|(with_reducible apply EvO.nilT)
|((with_reducible apply EvO.gf);(case hW=>exact rfl))
|((with_reducible apply EvO.u0);(case hx=>first
|((with_reducible apply OpR.lksn);(case h0=>exact mt0);(case hm=>exact mt1);(case hk|hn|ho=>exact rfl);(case hf=>exact hfind);(case hz=>exact zE);(case hv=>exact rfl))
|exact opq))
|fail)
       all_goals exact ⟨.inr rfl,rfl⟩
     ·
      repeat' (first
|(with_reducible apply EvK.seq)
|((with_reducible apply EvK.text);(try case hm=>exact rfl))
|(with_reducible first|apply EvK.exit|apply thenK_n|apply thenK_e|apply blockK_n|apply blockK_h)
|((with_reducible apply EvK.cond_f);(case hc=>exact rfl))
|((with_reducible apply EvO.spd_f);(case hp=>exact fao))
|(with_reducible apply EvO.nilT)
|((with_reducible apply EvO.u0);(case hx=>exact opq))
|fail)
      refine ⟨r+1,rfl,rfl,⟨by omega,fun k n hk hh=>?_⟩,by omega⟩
      by_cases hkr:k < r
      ·exact f2 k n hkr hh
      ·obtain rfl:k=r:=by omega
       obtain ⟨k',m',e1,e2,e3,e4⟩:=hasS_of hh
       obtain rfl:k'=k:=by omega
       rw [hpr] at e2;cases e2
       exact d3 n e3 (by omega)
    ·
     repeat' (first
|(with_reducible apply EvK.seq)
|((with_reducible apply EvK.text);(try case hm=>exact rfl))
|(with_reducible first|apply EvK.exit|apply thenK_n|apply thenK_e|apply blockK_n|apply blockK_h)
|((with_reducible apply EvK.cond_f);(case hc=>exact rfl))
|((with_reducible apply EvO.spd_f);(case hp=>exact fao))
|(with_reducible apply EvO.nilT)
|((with_reducible apply EvO.u0);(case hx=>exact opq))
|fail)
     refine ⟨q+1,rfl,frm rfl,⟨by omega,fun x hx a b hab=>?_⟩,by omega⟩
     rw [take_succ' he,List.mem_append,List.mem_singleton] at hx
     rcases hx with hx|rfl
     ·exact g2 x hx a b hab
     ·obtain ⟨k',m',e1,e2,e3,e4⟩:=hasS_of hab
      subst e1
      exact f2 k' b (by have:=lt_of_get e2;omega) hab
   ·
    have hyes:closedB l=true:=closedB_t ⟨hlen,hform,fun x hx y hy=>by rw [halike x hx,halike y hy],hnames,fun e he r n hh=>by
     rw [List.take_of_length_le g3] at g2
     exact g2 e he r n hh⟩
    rw [hyes]
    repeat' (first
|(with_reducible apply EvK.seq)
|((with_reducible apply EvK.text);(try case hm=>exact rfl))
|(with_reducible first|apply EvK.exit|apply EvK.ret|apply thenK_n|apply thenK_e|apply blockK_h)
|((with_reducible apply EvK.cond_f);(case hc=>exact rfl))
|((with_reducible apply EvO.spd_f);(case hp=>exact fao))
|(with_reducible apply EvO.nilT)
|((with_reducible apply EvO.u0);(case hx=>exact opq))
|fail)
    exact ⟨.inr rfl,rfl⟩
 ·
  have hno:closedB l=false:=closedB_f fun h=>hlen h.few
  rw [hno]
  repeat' (first
|(with_reducible apply EvK.seq)
|((with_reducible apply EvK.text);(try case hm=>exact rfl))
|(with_reducible first|apply EvK.ret|apply thenK_r)
|((with_reducible apply EvK.cond_t);(case hc=>exact rfl))
|((with_reducible apply EvO.spd_t);(case hp=>exact fao))
|(with_reducible apply EvO.nilT)
|((with_reducible apply EvO.u0);(case hx=>exact opq))
|fail)
  exact ⟨.inr rfl,rfl⟩
end Go.Proofs.YtgbfedgghjcdcaaGreatDoor
