/- The tree evaluator,18: regions that draw their order. No condition. -/
import Derived.Test.YtjdhnoffoknlnaaGreatDoorTB
import Derived.RangeFuncSeq
set_option linter.unusedSimpArgs false
set_option linter.unusedVariables false
set_option linter.unusedSectionVars false
namespace Go.Proofs.YtjdhnoffoknlnaaGreatDoor
open Go.RowKit
def StepR (g:Cfg) (C:CallF) (d:Option (List Nat)) (ops:Array Oper) (i:Nat) (o:Oper) (E:Env) (F:Fr) (E':Env) (F':Fr):Prop:=
 match o.guard with
 | none=>∃ x ks,step g C d i E F o.op=some (x,F',ks)∧E'=updO (killE ks E) o.dst x
 | some (j,want)=>(gOf ops E j want=some true∧∃ x ks,step g C d i E F o.op=some (x,F',ks)∧E'=updO (killE ks E) o.dst (.yes x))∨(gOf ops E j want=some false∧F'=F∧E'=updO E o.dst .no)
theorem ops_trace {g:Cfg} {C:CallF} {d:Option (List Nat)} {ops:Array Oper} {env':Env} {fr':Fr}:∀ (l:List Oper) (n:Nat) (env:Env) (fr:Fr),evOps g C d ops n l env fr=some (env',fr')→
  ∃ (E:Nat→Env) (F:Nat→Fr),E 0=env∧F 0=fr∧(∀ i o,l[i]?=some o→StepR g C d ops (n+i) o (E i) (F i) (E (i+1)) (F (i+1)))∧E l.length=env'∧F l.length=fr'
 | [],n,env,fr,h=>by
  unfold evOps at h
  cases h
  exact ⟨fun _=>env',fun _=>fr',rfl,rfl,fun i o ho=>by simp at ho,rfl,rfl⟩
 | o::l,n,env,fr,h=>by
  have:∃ e1 f1,StepR g C d ops n o env fr e1 f1∧evOps g C d ops (n+1) l e1 f1=some (env',fr'):=by
   unfold evOps at h
   unfold StepR
   split at h
   ·rename_i hg
    rw [hg]
    split at h
    ·rename_i x f1 ks hst;exact ⟨_,f1,⟨x,ks,hst,rfl⟩,h⟩
    ·cases h
   ·rename_i j want hg
    rw [hg]
    split at h
    ·cases h
    ·rename_i hW
     split at h
     ·rename_i x f1 ks hst;exact ⟨_,f1,.inl ⟨hW,x,ks,hst,rfl⟩,h⟩
     ·cases h
    ·rename_i hW;exact ⟨_,_,.inr ⟨hW,rfl,rfl⟩,h⟩
  obtain ⟨e1,f1,h1,h2⟩:=this
  obtain ⟨E,F,a1,a2,a3,a4,a5⟩:=ops_trace l (n+1) e1 f1 h2
  refine ⟨fun i=>match i with|0=>env|i+1=>E i,fun i=>match i with|0=>fr|i+1=>F i,rfl,rfl,fun i o' ho'=>?_,a4,a5⟩
  cases i with
  | zero=>cases ho';show StepR g C d ops (n+0) _ env fr (E 0) (F 0);rw [a1,a2];exact h1
  | succ i=>
   have:=a3 i o' (by simpa using ho')
   rw [Nat.add_assoc,Nat.add_comm 1 i] at this
   exact this
theorem callS_dr {g:Cfg} {C:CallF} {fr:Fr} {f:Nat} {args:List SV} {x:SV} {fr':Fr} {ks:List Nat} (h:callS g C true fr f args=some (x,fr',ks)):fr'=fr∧ks=[]:=by
 unfold callS at h
 split at h
 ·cases h
 ·split at h
  ·split at h
   ·cases h
   ·split at h
    ·cases h;exact ⟨rfl,rfl⟩
    ·simp only at h
     split at h
     ·split at h
      ·cases h;exact ⟨rfl,rfl⟩
      ·split at h
       ·cases h;exact ⟨rfl,rfl⟩
       ·cases h
     ·cases h
  ·cases h
theorem evD_same {g:Cfg} {C:CallF} {env:Env} {fr:Fr} {op:Op} {x:SV} {fr':Fr} {ks:List Nat} (h:evD g C env fr op=some (x,fr',ks)):fr'=fr∧ks=[]:=by
 unfold evD at h
 split at h
 ·rename_i hc
  unfold isCall at hc
  split at hc
  ·unfold evW makeT at h
   simp only at h
   split at h
   ·cases h;exact ⟨rfl,rfl⟩
   ·cases h
  ·rename_i c args tys
   unfold evW at h
   simp only at h
   unfold callE at h
   split at h
   ·cases h
   ·exact callS_dr h
  ·cases hc
 ·obtain ⟨_,rfl,rfl⟩:=withFr_ok h
  exact ⟨rfl,rfl⟩
section
variable {g:Cfg} {γ:Glob} {κ:Ctx} {C:CallF} {ops:Array Oper} {effs:List Nat} {n:Nat} {E:Nat→Env} {F:Nat→Fr}
structure Mid (γ:Glob) (κ:Ctx) (ops:Array Oper) (effs:List Nat) (n:Nat) (E:Nat→Env) (F:Nat→Fr) (b:Nat) (L:Ls) (listed:Array Bool) (a:Act) (w:World):Prop where
 hd:Marks κ w a.defers
 hn:a.tmps.size=n
 hs:listed.size=ops.size
 hb:b≤ops.size
 low:∀ k,k < b→listed.getD k true=true
 seg:∀ k,b≤k→k < ops.size→listed.getD k true=true→∀ e∈effs,b≤e→k < e
 core:Core γ κ (F b) L w
 done:∀ (k:Nat) (o:Oper) (t:Nat),ops[k]?=some o→b≤k→o.dst=some t→listed.getD k true=true→SR (MA κ.M (F b) L) L w (E (k+1) t) (a.tmps.getD t undef)
 rest:∀ (t:Nat),(∀ (k:Nat) (o:Oper),ops[k]?=some o→b≤k→o.dst=some t→listed.getD k true=false)→SR (MA κ.M (F b) L) L w (E b t) (a.tmps.getD t undef)
 clos:∀ (k:Nat) (o:Oper),ops[k]?=some o→listed.getD k true=true→∀ e∈o.after,Region.binds .any e=true→listed.getD e.on false=true
abbrev Steps (g:Cfg) (C:CallF) (ops:Array Oper) (effs:List Nat) (E:Nat→Env) (F:Nat→Fr):Prop:=∀ (i:Nat) (o:Oper),ops[i]?=some o→StepR g C (some effs) ops i o (E i) (F i) (E (i+1)) (F (i+1))
theorem Steps.neu (hE:Steps g C ops effs E F) {i:Nat} {o:Oper} (ho:ops[i]?=some o) (hi:i ∉ effs):F (i+1)=F i∧∀ t,o.dst≠some t→E (i+1) t=E i t:=by
 have h:=hE i o ho
 have hD:∀ {x ks},step g C (some effs) i (E i) (F i) o.op=some (x,F (i+1),ks)→F (i+1)=F i∧ks=[]:=fun {x ks} h=>by
  unfold step at h
  simp only [hasN_not.2 hi] at h
  exact evD_same h
 unfold StepR at h
 split at h
 ·obtain ⟨x,ks,h1,h2⟩:=h
  obtain ⟨h3,rfl⟩:=hD h1
  exact ⟨h3,fun t ht=>by rw [h2,updO_off ht];rfl⟩
 ·rcases h with ⟨_,x,ks,h1,h2⟩|⟨_,h1,h2⟩
  ·obtain ⟨h3,rfl⟩:=hD h1
   exact ⟨h3,fun t ht=>by rw [h2,updO_off ht];rfl⟩
  ·exact ⟨h1,fun t ht=>by rw [h2,updO_off ht]⟩
theorem F_const (hE:Steps g C ops effs E F) {b:Nat}:∀ i,b≤i→i≤ops.size→(∀ m,b≤m→m < i→m ∉ effs)→F i=F b
 | 0,h,_,_=>by obtain rfl:b=0:=by omega
               rfl
 | i+1,h,hi,hm=>by
  rcases Nat.lt_or_ge i b with h1|h1
  ·obtain rfl:b=i+1:=by omega
   rfl
  ·rw [(hE.neu (Array.getElem?_eq_getElem (by omega)) (hm i h1 (by omega))).1]
   exact F_const hE i h1 (by omega) fun m h2 h3=>hm m h2 (by omega)
theorem E_mono (hE:Steps g C ops effs E F) (t b:Nat):∀ i,b≤i→i≤ops.size→(∀ m,b≤m→m < i→m ∉ effs)→(∀ (k:Nat) (o:Oper),b≤k→k < i→ops[k]?=some o→o.dst≠some t)→E i t=E b t
 | 0,h,_,_,_=>by obtain rfl:b=0:=by omega
                 rfl
 | i+1,h,hi,hm,hk=>by
  rcases Nat.lt_or_ge i b with h1|h1
  ·obtain rfl:b=i+1:=by omega
   rfl
  ·rw [(hE.neu (Array.getElem?_eq_getElem (by omega)) (hm i h1 (by omega))).2 t (hk i _ h1 (by omega) (Array.getElem?_eq_getElem (by omega)))]
   exact E_mono hE t b i h1 (by omega) (fun m h2 h3=>hm m h2 (by omega)) fun k o hjk hki=>hk k o hjk (by omega)
variable {b:Nat} {L:Ls} {listed:Array Bool} {a:Act} {w:World}
theorem Mid.start (hd:Marks κ w a.defers) (hn:a.tmps.size=n) (hC:Core γ κ (F 0) L w) (hV:∀ t,SR (MA κ.M (F 0) L) L w (E 0 t) (a.tmps.getD t undef)):Mid γ κ ops effs n E F 0 L (Array.replicate ops.size false) a w where
 hd:=hd
 hn:=hn
 hs:=by simp
 hb:=Nat.zero_le _
 low:=fun k hk=>by omega
 seg:=fun k _ hk hl=>by
  rw [Array.getD_eq_getD_getElem?,Array.getElem?_replicate,if_pos hk] at hl
  cases hl
 core:=hC
 done:=fun k o t ho _ _ hl=>by
  have hk:=(Array.getElem?_eq_some_iff.1 ho).1
  rw [Array.getD_eq_getD_getElem?,Array.getElem?_replicate,if_pos hk] at hl
  cases hl
 rest:=fun t _=>hV t
 clos:=fun k o ho hl=>by
  have hk:=(Array.getElem?_eq_some_iff.1 ho).1
  rw [Array.getD_eq_getD_getElem?,Array.getElem?_replicate,if_pos hk] at hl
  cases hl
theorem Mid.slot (hok:DrawOk ops effs) (hE:Steps g C ops effs E F) (h:Mid γ κ ops effs n E F b L listed a w)
  {i:Nat} {t:Nat} (hbi:b≤i) (hi:i≤ops.size) (hm:∀ m,b≤m→m < i→m ∉ effs) (h1:∀ (k:Nat) (ok:Oper),ops[k]?=some ok→b≤k→ok.dst=some t→listed.getD k true=true→k < i) (h2:∀ (k:Nat) (ok:Oper),ops[k]?=some ok→b≤k→ok.dst=some t→listed.getD k true=false→i≤k):SR (MA κ.M (F b) L) L w (E i t) (a.tmps.getD t undef):=by
 by_cases hex:∃ (k:Nat) (ok:Oper),ops[k]?=some ok∧b≤k∧ok.dst=some t∧listed.getD k true=true
 ·obtain ⟨k,ok,hk,hbk,hd,hl⟩:=hex
  have hki:=h1 k ok hk hbk hd hl
  rw [E_mono hE t (k+1) i (by omega) hi (fun m h2 h3=>hm m (by omega) h3) fun m om hm1 hm2 hm3=>hok.dst m om k ok t hm3 hk (by omega) hd]
  exact h.done k ok t hk hbk hd hl
 ·have hno:∀ (k:Nat) (o:Oper),ops[k]?=some o→b≤k→o.dst=some t→listed.getD k true=false:=fun k o hk hbk hd=>by
   rw [← Bool.not_eq_true];exact fun hl=>hex ⟨k,o,hk,hbk,hd,hl⟩
  rw [E_mono hE t b i hbi hi hm fun k o hbk hki hk hd=>by have:=h2 k o hk hbk hd (hno k o hk hbk hd);omega]
  exact h.rest t hno
theorem Mid.anc (h:Mid γ κ ops effs n E F b L listed a w) {i k:Nat} (ha:Anc ops i k):(∀ (o:Oper),ops[i]?=some o→∀ e∈o.after,Region.binds .any e=true→listed.getD e.on false=true)→listed.getD k true=true:=by
 induction ha with
 | one i o e ho he hb=>intro hi;exact getD_false (hi o ho e he hb)
 | more i k o e ho he hb ha ih=>
  intro hi
  have h1:=getD_false (hi o ho e he hb)
  exact ih fun o' ho'=>h.clos e.on o' ho' h1
theorem all_listed (hok:DrawOk ops effs) {listed:Array Bool} (hs:listed.size=ops.size) (hr:Region.ready .any ops listed=[]):∀ k,k < ops.size→listed.getD k true=true:=by
 intro k
 induction k using Nat.strongRecOn with
 | _ k ih=>
  intro hk
  rw [← Bool.not_eq_false]
  intro hl
  have hm:k∈Region.ready .any ops listed:=mem_ready.2 ⟨hl,ops[k],Array.getElem?_eq_getElem hk,fun e he hb=>by
   have hlt:=hok.back k _ (Array.getElem?_eq_getElem hk) e he hb
   exact getD_true (by rw [hs];omega) (ih e.on hlt (by omega))⟩
  rw [hr] at hm
  cases hm
theorem Mid.put (hok:DrawOk ops effs) (h:Mid γ κ ops effs n E F b L listed a w) {w':World} {i:Nat} {o:Oper} (ho:ops[i]?=some o) (hli:listed.getD i true=false) (hbi:b≤i) (hie:i ∉ effs) (hno:∀ e∈effs,b≤e→i < e) (hedge:∀ e∈o.after,Region.binds .any e=true→listed.getD e.on false=true)
  (hdst:∀ d,o.dst=some d→d < n) {v:Value} {L':Ls} (hT:Tr κ.M (F b) L w (F b) L' w' []) (hC':Core γ κ (F b) L' w') (hv:∀ t,o.dst=some t→SR (MA κ.M (F b) L') L' w' (E (i+1) t) v):Mid γ κ ops effs n E F b L' (listed.setIfInBounds i true) (a.put o.dst v) w' where
 hd:=by rw [put_defers];exact h.hd.tr h.core hT
 hn:=by rw [put_size,h.hn]
 hs:=by rw [Array.size_setIfInBounds];exact h.hs
 hb:=h.hb
 low:=fun k hk=>by rw [getD_set_ne true (by omega)];exact h.low k hk
 seg:=fun k hbk hk hl e he hbe=>by
  by_cases hki:k=i
  ·subst hki;exact hno e he hbe
  ·rw [getD_set_ne true (Ne.symm hki)] at hl
   exact h.seg k hbk hk hl e he hbe
 core:=hC'
 done:=fun k ok t hk hbk hd hl=>by
  by_cases hki:k=i
  ·subst hki
   rw [ho] at hk;cases hk
   rw [hd,put_at (by rw [h.hn];exact hdst t hd)]
   exact hv t hd
  ·rw [put_off (hok.dst i o k ok t ho hk hki hd)]
   rw [getD_set_ne true (Ne.symm hki)] at hl
   exact hT.sr (h.done k ok t hk hbk hd hl)
 rest:=fun t ht=>by
  have hi:o.dst≠some t:=fun hd=>by
   have hlt:i < listed.size:=by rw [h.hs];exact (Array.getElem?_eq_some_iff.1 ho).1
   have:=ht i o ho hbi hd
   rw [Array.getD_eq_getD_getElem?,Array.getElem?_setIfInBounds_self_of_lt hlt] at this
   cases this
  rw [put_off hi]
  refine hT.sr (h.rest t fun k ok hk hbk hd=>?_)
  have hki:k≠i:=fun e=>by subst e;rw [ho] at hk;cases hk;exact hi hd
  have:=ht k ok hk hbk hd
  rw [getD_set_ne true (Ne.symm hki)] at this
  exact this
 clos:=fun k ok hk hl e he hb'=>by
  by_cases hki:k=i
  ·subst hki
   rw [ho] at hk;cases hk
   exact getD_set_true (hedge e he hb')
  ·rw [getD_set_ne true (Ne.symm hki)] at hl
   exact getD_set_true (h.clos k ok hk hl e he hb')
theorem Mid.jump (h:Mid γ κ ops effs n E F b L listed a w) {w':World} {i:Nat} {o:Oper} (ho:ops[i]?=some o) (hlo:∀ k,k < i→listed.getD k true=true) (hhi:∀ k,i < k→k < ops.size→listed.getD k true=false) (hedge:∀ e∈o.after,Region.binds .any e=true→listed.getD e.on false=true)
  {v:Value} {L':Ls} (hd:Marks κ w' a.defers) (hC':Core γ κ (F (i+1)) L' w') (hV:∀ t,SR (MA κ.M (F (i+1)) L') L' w' (E (i+1) t) ((a.put o.dst v).tmps.getD t undef)):Mid γ κ ops effs n E F (i+1) L' (listed.setIfInBounds i true) (a.put o.dst v) w' where
 hd:=by rw [put_defers];exact hd
 hn:=by rw [put_size,h.hn]
 hs:=by rw [Array.size_setIfInBounds];exact h.hs
 hb:=(Array.getElem?_eq_some_iff.1 ho).1
 low:=fun k hk=>by
  by_cases hki:k=i
  ·subst hki
   have hlt:k < listed.size:=by rw [h.hs];exact (Array.getElem?_eq_some_iff.1 ho).1
   rw [Array.getD_eq_getD_getElem?,Array.getElem?_setIfInBounds_self_of_lt hlt];rfl
  ·rw [getD_set_ne true (Ne.symm hki)];exact hlo k (by omega)
 seg:=fun k hbk hk hl=>by
  rw [getD_set_ne true (by omega),hhi k (by omega) hk] at hl
  cases hl
 core:=hC'
 done:=fun k ok t hk hbk hd hl=>by
  rw [getD_set_ne true (by omega),hhi k (by omega) (Array.getElem?_eq_some_iff.1 hk).1] at hl
  cases hl
 rest:=fun t _=>hV t
 clos:=fun k ok hk hl e he hb'=>by
  by_cases hki:k=i
  ·subst hki
   rw [ho] at hk;cases hk
   exact getD_set_true (hedge e he hb')
  ·rw [getD_set_ne true (Ne.symm hki)] at hl
   exact getD_set_true (h.clos k ok hk hl e he hb')
theorem wpAny_mid {rd:Option Nat} {dn:Nat} (hS:CallSnd g.P γ C) (hok:DrawOk ops effs) (hdst:dstOk n ops.toList=true) (hE:Steps g C ops effs E F) {Q:Exit→Act→World→Prop}
  (hK:∀ L a w,Marks κ w a.defers→a.tmps.size=n→Core γ κ (F ops.size) L w→(∀ t,SR (MA κ.M (F ops.size) L) L w (E ops.size t) (a.tmps.getD t undef))→Q .normal a w) :
  ∀ (fuel:Nat) (b:Nat) (L:Ls) (listed:Array Bool) (a:Act) (w:World),un' listed ops.size≤fuel→Mid γ κ ops effs n E F b L listed a w→wpAnyIn (Fw rd) dn g.P .any ops Q fuel listed a w:=by
 have hdst':∀ (i:Nat) (o:Oper),ops[i]?=some o→∀ d,o.dst=some d→d < n:=fun i o ho d hd=>dst_lt hdst (Array.mem_toList_iff.2 (Array.mem_of_getElem? ho)) hd
 have fin:∀ (b:Nat) (L:Ls) (listed:Array Bool) (a:Act) (w:World),(∀ k,k < ops.size→listed.getD k true=true)→Mid γ κ ops effs n E F b L listed a w→Q .normal a w:=fun b L listed a w hall h=>by
  have hm:∀ m,b≤m→m < ops.size→m ∉ effs:=fun m h1 h2 h3=>Nat.lt_irrefl _ (h.seg m h1 h2 (hall m h2) m h3 h1)
  have hF:=F_const hE ops.size h.hb (Nat.le_refl _) hm
  refine hK L a w h.hd h.hn (by rw [hF];exact h.core) fun t=>?_
  rw [hF]
  exact h.slot hok hE h.hb (Nat.le_refl _) hm (fun k ok hk _ _ _=>(Array.getElem?_eq_some_iff.1 hk).1) (fun k ok hk _ _ hl=>by
   have:=hall k (Array.getElem?_eq_some_iff.1 hk).1
   rw [hl] at this;cases this)
 intro fuel
 induction fuel with
 | zero=>
  intro b L listed a w hu h
  have hall:=un_zero (listed:=listed) ops.size (by omega)
  refine ⟨?_,fin b L listed a w hall h⟩
  cases hr:Region.ready .any ops listed with
  | nil=>rfl
  | cons i l=>
   have hm:i∈Region.ready .any ops listed:=by rw [hr];simp
   obtain ⟨hl,o,ho,_⟩:=mem_ready.1 hm
   have:=hall i (Array.getElem?_eq_some_iff.1 ho).1
   rw [hl] at this;cases this
 | succ fuel ih=>
  intro b L listed a w hu h
  refine ⟨fun hr=>fin b L listed a w (all_listed hok h.hs hr) h,fun i hi=>?_⟩
  obtain ⟨hl,o,ho,hedge⟩:=mem_ready.1 hi
  have hisz:=(Array.getElem?_eq_some_iff.1 ho).1
  have hst:=hE i o ho
  have hu':un' (listed.setIfInBounds i true) ops.size≤fuel:=by
   have:=un_set hl ops.size
   rw [if_pos hisz] at this
   omega
  have hbi:b≤i:=by
   rcases Nat.lt_or_ge i b with h1|h1
   ·have:=h.low i h1;rw [hl] at this;cases this
   ·exact h1
  have hready:∀ k,Anc ops i k→listed.getD k true=true:=fun k ha=>h.anc ha fun o' ho'=>by rw [ho] at ho';cases ho';exact hedge
  have hno:∀ e∈effs,b≤e→¬ e < i:=fun e he hbe hlt=>by
   have h1:=hready e ((hok.eff e he i hisz).2 hlt)
   exact Nat.lt_irrefl _ (h.seg e hbe (by omega) h1 e he hbe)
  have hm:∀ m,b≤m→m < i→m ∉ effs:=fun m h1 h2 h3=>hno m h3 h1 h2
  have hF:F i=F b:=F_const hE i hbi (by omega) hm
  have edge:∀ k,hasEdge o k=true→listed.getD k true=true∧k < i:=fun k hk=>by
   obtain ⟨e,he,hb,rfl⟩:=hasEdge_iff hk
   exact ⟨getD_false (hedge e he hb),hok.back i o ho e he hb⟩
  have hop:∀ y∈o.op.operands,SR (MA κ.M (F i) L) L w (evE (E i) y) (a.eval y):=fun y hy=>by
   rw [hF]
   cases y with
   | const v=>exact cv_ok v
   | global g=>exact .dead _
   | func f=>exact .t _ _ (.fn _ [] #[] #[] rfl (fun j x u hx _=>by simp at hx))
   | tmp t=>
    refine h.slot hok hE hbi (by omega) hm (fun k ok hk hbk hd hlk=>?_) (fun k ok hk hbk hd hlk=>?_)
    ·have hki:k≠i:=fun e=>by subst e;rw [hl] at hlk;cases hlk
     rcases hok.use i o k ok t ho hk hki hd hy with h1|h1
     ·exact (edge k h1).2
     ·obtain ⟨e,he,hb,rfl⟩:=hasEdge_iff h1
      have:=getD_false (h.clos k ok hk hlk e he hb)
      rw [hl] at this;cases this
    ·rcases Nat.lt_or_ge k i with hlt|hge
     ·rcases hok.use i o k ok t ho hk (by omega) hd hy with h1|h1
      ·have:=(edge k h1).1
       rw [hlk] at this;cases this
      ·obtain ⟨e,he,hb,rfl⟩:=hasEdge_iff h1
       have:=hok.back k ok hk e he hb
       omega
     ·exact hge
  have hCi:Core γ κ (F i) L w:=by rw [hF];exact h.core
  -- what comes behind this operation,once it is carried out
  have next:∀ (v:Value) (w':World) (L':Ls) (x:SV) (ks:List Nat),Tr κ.M (F i) L w (F (i+1)) L' w' ks→Core γ κ (F (i+1)) L' w'→SR (MA κ.M (F (i+1)) L') L' w' x v→E (i+1)=updO (killE ks (E i)) o.dst x→(i ∉ effs→ks=[])→wpAnyIn (Fw rd) dn g.P .any ops Q fuel (listed.setIfInBounds i true) (a.put o.dst v) w':=fun v w' L' x ks hT hC' hv hEi hks=>by
   by_cases hie:i∈effs
   ·have hlo:∀ k,k < i→listed.getD k true=true:=fun k hk=>hready k ((hok.eff i hie k (by omega)).1 hk)
    have hhi:∀ k,i < k→k < ops.size→listed.getD k true=false:=fun k hk hks=>by
     rw [← Bool.not_eq_true]
     intro hlk
     have:=h.anc ((hok.eff i hie k hks).2 hk) fun o' ho'=>h.clos k o' ho' hlk
     rw [hl] at this;cases this
    refine ih _ _ _ _ _ hu' (h.jump ho hlo hhi hedge (h.hd.tr hCi hT) hC' fun t=>?_)
    rw [hEi]
    refine put_rel (fun t=>?_) hv (fun k hk=>by rw [h.hn];exact hdst' i o ho k hk) t
    refine hT.env ?_
    rw [hF]
    refine h.slot hok hE hbi (by omega) hm (fun k ok hk _ _ hlk=>?_) (fun k ok hk _ _ hlk=>?_)
    ·have:=(Array.getElem?_eq_some_iff.1 hk).1
     rcases Nat.lt_trichotomy k i with h1|h1|h1
     ·exact h1
     ·subst h1;rw [hl] at hlk;cases hlk
     ·rw [hhi k h1 this] at hlk;cases hlk
    ·rcases Nat.lt_or_ge k i with h1|h1
     ·rw [hlo k h1] at hlk;cases hlk
     ·exact h1
   ·obtain ⟨hF',_⟩:=hE.neu ho hie
    rw [hF',hF] at hT hC' hv
    obtain rfl:=hks hie
    refine ih _ _ _ _ _ hu' (h.put hok ho hl hbi hie (fun e he hbe=>?_) hedge (hdst' i o ho) hT hC' fun t ht=>?_)
    ·have:=hno e he hbe
     have:e≠i:=fun h=>hie (by rw [← h];exact he)
     omega
    ·rw [hEi,ht]
     show SR _ _ _ (upd _ t x t) v
     rw [upd_same]
     exact hv
  have ksNil:∀ {x:SV} {f1:Fr} {ks:List Nat},step g C (some effs) i (E i) (F i) o.op=some (x,f1,ks)→i ∉ effs→ks=[]:=fun {x f1 ks} hst hie=>by
   unfold step at hst
   simp only [hasN_not.2 hie] at hst
   exact (evD_same hst).2
  unfold wpOpIn
  simp only [ho]
  unfold StepR at hst
  cases hg:o.guard with
  | none=>
   rw [hg] at hst
   obtain ⟨x,ks,hst,hEi⟩:=hst
   rw [if_pos (by simp [Region.wanted,hg])]
   exact (step_ok hS hst κ L a w hCi hop).wpIn fun v w' ⟨L',hT,hC',hv⟩=>next v w' L' x ks hT hC' hv hEi (ksNil hst)
  | some gj=>
   obtain ⟨j,want⟩:=gj
   rw [hg] at hst
   obtain ⟨hlj,hji⟩:=edge j (hok.guard i o j want ho hg)
   have hwt:∀ W,gOf ops (E i) j want=some W→Region.wanted o (yielded ops a.tmps)=W:=fun W hW=>wanted_of (A:=MA κ.M (F b) L) (L:=L) (w:=w) hg hW fun d hdd=>by
    cases hoj:ops[j]? with
    | none=>rw [hoj] at hdd;cases hdd
    | some oj=>
     rw [hoj] at hdd
     have hdj:oj.dst=some d:=hdd
     refine ⟨?_,by rw [h.hn];exact hdst' j oj hoj d hdj⟩
     refine h.slot hok hE hbi (by omega) hm (fun k ok hk hbk hd hlk=>?_) (fun k ok hk hbk hd hlk=>?_)
     ·rcases Nat.lt_or_ge k j with h1|h1
      ·omega
      ·rcases Nat.eq_or_lt_of_le h1 with h2|h2
       ·omega
       ·exact absurd hdj (hok.dst j oj k ok d hoj hk (by omega) hd)
     ·by_cases hkj:k=j
      ·subst hkj;rw [hlj] at hlk;cases hlk
      ·exact absurd hdj (hok.dst j oj k ok d hoj hk hkj hd)
   rcases hst with ⟨hW,x,ks,hst,hEi⟩|⟨hW,hFi,hEi⟩
   ·rw [hwt _ hW,if_pos rfl]
    exact (step_ok hS hst κ L a w hCi hop).wpIn fun v w' ⟨L',hT,hC',hv⟩=>next v w' L' (.yes x) ks hT hC' (.yes _ _ hv) hEi (ksNil hst)
   ·rw [hwt _ hW,if_neg (by simp)]
    exact ⟨fun _ _=>trivial,next undef w L .no [] (by rw [hFi];exact Tr.refl) (by rw [hFi];exact hCi) .no hEi (fun _=>rfl)⟩
end
end Go.Proofs.YtjdhnoffoknlnaaGreatDoor
namespace Go.Proofs.YtjdhnoffoknlnaaGreatDoor
open Go.RowKit
def StepF (g:Cfg) (C:CallF) (effs:List Nat) (ops:Array Oper) (i:Nat) (o:Oper) (E:Env) (F:Fr) (E':Env) (F':Fr):Prop:=
 fltM effs ops E F i=true∧match o.guard with
 | none=>∃ x,step g C (some effs) i E F o.op=some (x,F',[])∧E'=updO E o.dst x
 | some (j,want)=>(gOf ops E j want=some true∧∃ x,step g C (some effs) i E F o.op=some (x,F',[])∧E'=updO E o.dst (.yes x))∨(gOf ops E j want=some false∧F'=F∧E'=updO E o.dst .no)
theorem flt_all {effs:List Nat} {ops:Array Oper} {E:Env} {F:Fr} {i:Nat} (h:fltM effs ops E F i=true):(List.range i).all (fltPair effs ops E i)=true:=by
 unfold fltM at h
 rw [Bool.and_eq_true] at h
 exact h.1
theorem flt_ok {effs:List Nat} {ops:Array Oper} {E:Env} {F:Fr} {i:Nat} (h:fltM effs ops E F i=true):okW effs ops E F i=true:=by
 unfold fltM at h
 rw [Bool.and_eq_true] at h
 exact h.2
theorem opsF_trace {g:Cfg} {C:CallF} {effs:List Nat} {ops:Array Oper} {env':Env} {fr':Fr}:∀ (l:List Oper) (n:Nat) (env:Env) (fr:Fr),evOpsF g C effs ops n l env fr=some (env',fr')→
  ∃ (E:Nat→Env) (F:Nat→Fr),E 0=env∧F 0=fr∧(∀ i o,l[i]?=some o→StepF g C effs ops (n+i) o (E i) (F i) (E (i+1)) (F (i+1)))∧E l.length=env'∧F l.length=fr'
 | [],n,env,fr,h=>by
  unfold evOpsF at h
  cases h
  exact ⟨fun _=>env',fun _=>fr',rfl,rfl,fun i o ho=>by simp at ho,rfl,rfl⟩
 | o::l,n,env,fr,h=>by
  have:∃ e1 f1,StepF g C effs ops n o env fr e1 f1∧evOpsF g C effs ops (n+1) l e1 f1=some (env',fr'):=by
   unfold evOpsF at h
   unfold StepF
   split at h
   ·cases h
   ·rename_i hfl
    split at h
    ·rename_i hg
     rw [hg]
     split at h
     ·rename_i x f1 hst;exact ⟨_,f1,⟨hfl,x,hst,rfl⟩,h⟩
     ·cases h
    ·rename_i j want hg
     rw [hg]
     split at h
     ·cases h
     ·rename_i hW
      split at h
      ·rename_i x f1 hst;exact ⟨_,f1,⟨hfl,.inl ⟨hW,x,hst,rfl⟩⟩,h⟩
      ·cases h
     ·rename_i hW;exact ⟨_,_,⟨hfl,.inr ⟨hW,rfl,rfl⟩⟩,h⟩
  obtain ⟨e1,f1,h1,h2⟩:=this
  obtain ⟨E,F,a1,a2,a3,a4,a5⟩:=opsF_trace l (n+1) e1 f1 h2
  refine ⟨fun i=>match i with|0=>env|i+1=>E i,fun i=>match i with|0=>fr|i+1=>F i,rfl,rfl,fun i o' ho'=>?_,a4,a5⟩
  cases i with
  | zero=>cases ho';show StepF g C effs ops (n+0) _ env fr (E 0) (F 0);rw [a1,a2];exact h1
  | succ i=>
   have:=a3 i o' (by simpa using ho')
   rw [Nat.add_assoc,Nat.add_comm 1 i] at this
   exact this
theorem loadS_same {P:Program} {t:Nat} {x:SV} {fr fr':Fr} (hv:∀ b p k,x≠.lr b p k) (h:∀ b,((∃ j,x=.lp b j)∨∃ sz k j,x=.le b sz k j)→fr[b]?=fr'[b]?):loadS P fr t x=loadS P fr' t x:=by
 unfold loadS
 cases x with
 | lp i j=>simp only [h i (.inl ⟨j,rfl⟩)]
 | le i sz k j=>simp only [h i (.inr ⟨sz,k,j,rfl⟩)]
 | lr b p k=>exact absurd rfl (hv b p k)
 | t y=>cases y <;> rfl
 | _=>rfl
theorem indexAddrS_same {P:Program} {t:Nat} {x i:SV} {fr fr':Fr} (hv:(∀ b sz a n,x≠.lv b sz a n)∧∀ b p,x≠.lo b p) (h:∀ b,x=.ls b→fr[b]?=fr'[b]?):indexAddrS P fr t x i=indexAddrS P fr' t x i:=by
 unfold indexAddrS
 cases x with
 | lv b sz a n=>exact absurd rfl (hv.1 b sz a n)
 | lo b p=>exact absurd rfl (hv.2 b p)
 | ls r=>simp only [h r rfl]
 | t y=>cases y <;> rfl
 | _=>rfl
theorem rdB_load {env:Env} {t:Nat} {y:Operand} {rl:List Nat} (h:rdB env (.load t y)=some rl):∀ b,(((∃ j,rd env y=.lp b j)∨∃ sz k j,rd env y=.le b sz k j)→rl=[b]):=by
 intro b hb
 have h:(match rd env y with|.lp i _=>some [i]|.le i _ _ _=>some [i]|.lr ..=>none|_=>some [])=some rl:=h
 rcases hb with ⟨j,e⟩|⟨sz,k,j,e⟩
 ·rw [e] at h;cases h;rfl
 ·rw [e] at h;cases h;rfl
theorem rdB_load0 {env:Env} {t:Nat} {y:Operand} {rl:List Nat} (h:rdB env (.load t y)=some rl):∀ b∈rl,(∃ j,rd env y=.lp b j)∨∃ sz k j,rd env y=.le b sz k j:=by
 intro b hb
 have h:(match rd env y with|.lp i _=>some [i]|.le i _ _ _=>some [i]|.lr ..=>none|_=>some [])=some rl:=h
 cases hy:rd env y with
 | lp i j=>rw [hy] at h;cases h;obtain rfl:b=i:=by simpa using hb
           exact .inl ⟨j,rfl⟩
 | le i sz k j=>rw [hy] at h;cases h;obtain rfl:b=i:=by simpa using hb
                exact .inr ⟨sz,k,j,rfl⟩
 | lr i p k=>rw [hy] at h;cases h
 | _=>rw [hy] at h;cases h;cases hb
theorem rdB_loadv {env:Env} {t:Nat} {y:Operand} {rl:List Nat} (h:rdB env (.load t y)=some rl):∀ b p k,rd env y≠.lr b p k:=fun b p k e=>by
 have h:(match rd env y with|.lp i _=>some [i]|.le i _ _ _=>some [i]|.lr ..=>none|_=>some [])=some rl:=h
 rw [e] at h;cases h
theorem rdB_ix {env:Env} {t:Nat} {x i:Operand} {rl:List Nat} (h:rdB env (.indexAddr t x i)=some rl):(∀ b,rd env x=.ls b→rl=[b])∧∀ b∈rl,rd env x=.ls b:=by
 have h:(match rd env x with|.ls i=>some [i]|.lv ..=>none|.lo ..=>none|_=>some [])=some rl:=h
 refine ⟨fun b e=>by rw [e] at h;cases h;rfl,fun b hb=>?_⟩
 cases hx:rd env x with
 | ls i=>rw [hx] at h;cases h;obtain rfl:b=i:=by simpa using hb
         rfl
 | lv b sz a n=>rw [hx] at h;cases h
 | lo b p=>rw [hx] at h;cases h
 | _=>rw [hx] at h;cases h;cases hb
theorem rdB_ixv {env:Env} {t:Nat} {x i:Operand} {rl:List Nat} (h:rdB env (.indexAddr t x i)=some rl):(∀ b sz a n,rd env x≠.lv b sz a n)∧∀ b p,rd env x≠.lo b p:=by
 have h:(match rd env x with|.ls i=>some [i]|.lv ..=>none|.lo ..=>none|_=>some [])=some rl:=h
 refine ⟨fun b sz a n e=>?_,fun b p e=>?_⟩
 ·rw [e] at h;cases h
 ·rw [e] at h;cases h
theorem rdB_bin {env:Env} {b:BinOp} {xt yt:TypeId} {x y:Operand} {rl:List Nat} (h:rdB env (.binOp b xt x y yt)=some rl):rl=[]∧∀ i,rd env x≠.ls i:=by
 have h:(match rd env x with|.ls _=>none|_=>some [])=some rl:=h
 cases hx:rd env x with
 | ls i=>rw [hx] at h;cases h
 | _=>rw [hx] at h;cases h;exact ⟨rfl,fun i e=>by cases e⟩
theorem binO_same {P:Program} {b:BinOp} {t:Nat} {s s':SV} {fr fr':Fr} (h:∀ i,s≠.ls i):binO P fr b t s s'=binO P fr' b t s s':=by
 unfold binO
 cases s with
 | ls i=>exact absurd rfl (h i)
 | lv i sz a n=>cases s' <;> cases n <;> rfl
 | _=>rfl
theorem rchs_trees {fr:Fr}:∀ {cs:List SV},cs.all isTr=true→rchs fr cs=[]
 | [],_=>rfl
 | c::cs,h=>by
  rw [List.all_cons,Bool.and_eq_true] at h
  rw [rchs,rchs_trees h.2]
  cases c <;> first|rfl|(have h1:false=true:=h.1;cases h1)
theorem rdB_call {env:Env} {c:Call} {rl:List Nat} (h:rdB env (.call c)=some rl):rl=[]∧∃ f args tys g pa qa,c=⟨.value f,args,tys⟩∧calleeS (rd env f)=some (g,pa,qa)∧(pa++args.toList.map (rd env)++qa).all isTr=true:=by
 obtain ⟨callee,args,tys⟩:=c
 cases callee
 case value f=>
  unfold rdB at h
  simp only at h
  split at h
  ·rename_i g pa qa hc
   split at h
   ·rename_i hall
    cases h
    exact ⟨rfl,f,args,tys,g,pa,qa,rfl,hc,hall⟩
   ·cases h
  ·cases h
 all_goals (have h:none=some rl:=h;cases h)
theorem toAVs_trees {fr fr':Fr}:∀ {l:List SV},l.all isTr=true→toAVs fr l=toAVs fr' l
 | [],_=>rfl
 | c::l,h=>by
  rw [List.all_cons,Bool.and_eq_true] at h
  rw [toAVs,toAVs,toAVs_trees (fr':=fr') h.2]
  cases c <;> first|rfl|(have h1:false=true:=h.1;cases h1)
theorem treeArgs_all:∀ (bs:List Bool) {l:List SV},l.all isTr=true→(treeArgs bs l).all isTr=true
 | [],l,h=>by cases l <;> rfl
 | b::_,[],h=>by cases b <;> rfl
 | b::bs,c::l,h=>by
  rw [List.all_cons,Bool.and_eq_true] at h
  have ih:=treeArgs_all bs h.2
  cases b with
  | true=>exact ih
  | false=>show ((c::treeArgs bs l).all isTr)=true;rw [List.all_cons,h.1,ih];rfl
theorem callS_trees {g:Cfg} {C:CallF} {fr fr2:Fr} {f:Nat} {args:List SV} {x:SV} {ks:List Nat} (hall:args.all isTr=true) (h:callS g C true fr f args=some (x,fr,ks)):callS g C true fr2 f args=some (x,fr2,ks):=by
 have ht:=treeArgs_all (handL g f 0 args) hall
 unfold callS at h ⊢
 rw [toAVs_trees (fr':=fr2) ht] at h
 rw [rchs_trees ht] at h ⊢
 split at h
 ·cases h
 ·rename_i xs hxs
  try simp only [hxs]
  split at h
  ·rename_i hh
   try simp only [hh]
   split at h
   ·cases h
   ·rename_i r ex hc
    try simp only [hc]
    split at h
    ·rename_i hf
     cases h
     try simp only [hf]
    ·rename_i hf
     try simp only [hf]
     try simp only at h
     split at h
     ·rename_i hr;cases h;simp only [hr]
     ·rename_i hr
      split at h
      ·rename_i y hy;cases h;first|simp only [hy]|(split <;> simp_all)
      ·cases h
  ·cases h
theorem isCall_same {g:Cfg} {C:CallF} {env:Env} {op:Op} {rl:List Nat} {fr fr2:Fr} {x:SV} (hc:isCall op=true) (hrl:rdB env op=some rl) (hx:evD g C env fr op=some (x,fr,[])):evD g C env fr2 op=some (x,fr2,[]):=by
 cases op with
 | makeSlice t l c=>
  unfold evD at hx ⊢
  simp only [isCall] at hx ⊢
  unfold evW makeT at hx ⊢
  simp only at hx ⊢
  split at hx
  ·rename_i hm
   cases hx
   simp only [hm]
  ·cases hx
 | call c=>
  obtain ⟨_,cf,args,tys,fn,pa,qa,rfl,hcal,hall⟩:=rdB_call hrl
  unfold evD at hx ⊢
  simp only [isCall] at hx ⊢
  unfold evW callE at hx ⊢
  simp only [hcal] at hx ⊢
  exact callS_trees hall hx
 | _=>cases hc
theorem rdB_same {P:Program} {env:Env} {op:Op} {rl:List Nat} {fr fr':Fr} (h:rdB env op=some rl) (ha:∀ b∈rl,fr[b]?=fr'[b]?):evP P fr env op=evP P fr' env op:=by
 cases op
 case load t y=>exact loadS_same (rdB_loadv h) fun b hb=>ha b (by rw [rdB_load h b hb];simp)
 case binOp b xt x y yt=>
  have:=binO_same (P:=P) (b:=b) (t:=xt) (s':=rd env y) (fr:=fr) (fr':=fr') (rdB_bin h).2
  unfold evP
  simp only [this]
 case indexAddr t x i=>exact indexAddrS_same (rdB_ixv h) fun b hb=>ha b (by rw [(rdB_ix h).1 b hb];simp)
 case call c=>
  obtain ⟨callee,args,tys⟩:=c
  cases callee
  case value f=>rfl
  all_goals (have h:none=some rl:=h;cases h)
 all_goals first
  | rfl
  | (have h:none=some rl:=h;cases h)
theorem rdB_lt {P:Program} {env:Env} {op:Op} {rl:List Nat} {fr:Fr} {x:SV} (h:rdB env op=some rl) (hx:evP P fr env op=some x):∀ b∈rl,b < fr.length:=by
 intro b hb
 cases op
 case load t y=>
  have hx:loadS P fr t (rd env y)=some x:=hx
  unfold loadS at hx
  cases hf:fr[b]? with
  | some lb=>exact lt_of_get hf
  | none=>
   rcases rdB_load0 h b hb with ⟨j,e⟩|⟨sz,k,j,e⟩
   ·simp only [e,hf] at hx
    split at hx <;> cases hx
   ·simp only [e,hf] at hx
    split at hx <;> cases hx
 case indexAddr t y i=>
  have hx:indexAddrS P fr t (rd env y) (rd env i)=some x:=hx
  unfold indexAddrS at hx
  cases hf:fr[b]? with
  | some lb=>exact lt_of_get hf
  | none=>
   simp only [(rdB_ix h).2 b hb,hf] at hx
   repeat' (split at hx)
   all_goals first|(cases hx;done)|contradiction
 case binOp b' xt x y yt=>rw [(rdB_bin h).1] at hb;cases hb
 case call c=>rw [(rdB_call h).1] at hb;cases hb
 all_goals first
  | (have h:some []=some rl:=h;cases h;cases hb;done)
  | (have h:none=some rl:=h;cases h)
theorem rdB_env {op:Op} {e e':Env} (h:∀ y∈op.operands,evE e y=evE e' y):rdB e op=rdB e' op:=by
 cases op
 case load t y=>unfold rdB;simp only [rd,h y (by simp [Op.operands])]
 case binOp b xt x y yt=>unfold rdB;simp only [rd,h x (by simp [Op.operands])]
 case indexAddr t x i=>unfold rdB;simp only [rd,h x (by simp [Op.operands])]
 case call c=>
  obtain ⟨callee,args,tys⟩:=c
  cases callee
  case value f=>
   have e1:rd e f=rd e' f:=congrArg un (h f (by simp [Op.operands,Call.operands]))
   have e2:args.toList.map (rd e)=args.toList.map (rd e'):=List.map_congr_left fun y hy=>congrArg un (h y (by simp only [Op.operands,Call.operands];simp;exact .inr (by simpa using hy)))
   unfold rdB
   simp only [e1,e2]
  all_goals rfl
 all_goals rfl
theorem wrB_env {op:Op} {e e':Env} (h:∀ y∈op.operands,evE e y=evE e' y):wrB e op=wrB e' op:=by
 cases op
 case store t a x=>unfold wrB;simp only [rd,h a (by simp [Op.operands]),h x (by simp [Op.operands])]
 case call c=>
  obtain ⟨callee,args,tys⟩:=c
  cases callee
  case builtin b=>
   cases b
   case copy=>
    unfold wrB
    cases hl:args.toList with
    | nil=>simp only [hl]
    | cons x l=>
     have hx:evE e x=evE e' x:=h x (by
      have:x∈args.toList:=by rw [hl];simp
      simp only [Op.operands,Call.operands]
      simpa using this)
     cases l with
     | nil=>simp only [hl]
     | cons y l=>cases l <;> simp only [hl,rd,hx]
   all_goals rfl
  case value f=>
   have e1:rd e f=rd e' f:=congrArg un (h f (by simp [Op.operands,Call.operands]))
   have e2:args.toList.map (rd e)=args.toList.map (rd e'):=List.map_congr_left fun y hy=>congrArg un (h y (by simp only [Op.operands,Call.operands];simp;exact .inr (by simpa using hy)))
   unfold wrB
   simp only [e1,e2]
  all_goals rfl
 all_goals rfl
theorem handRefs_in:∀ (bs:List Bool) (l:List SV),∀ b∈handRefs bs l,b∈SV.refsL l
 | [],l,b,h=>by cases l <;> cases h
 | q::_,[],b,h=>by cases q <;> cases h
 | true::bs,s::l,b,h=>by
  have h:b∈s.refs++handRefs bs l:=h
  show b∈SV.refs s++SV.refsL l
  rw [List.mem_append] at h ⊢
  rcases h with h|h
  ·exact .inl h
  ·exact .inr (handRefs_in bs l b h)
 | false::bs,s::l,b,h=>by
  show b∈SV.refs s++SV.refsL l
  exact List.mem_append.2 (.inr (handRefs_in bs l b h))
theorem treeArgs_tp {g:Cfg} {f:Nat}:∀ (k:Nat) {l:List SV},l.all isTp=true→(treeArgs (handL g f k l) l).all isTr=true
 | k,[],h=>rfl
 | k,s::l,h=>by
  rw [List.all_cons,Bool.and_eq_true] at h
  have ih:=treeArgs_tp (g:=g) (f:=f) (k+1) h.2
  unfold handL
  cases hb:(handS s || g.hand f k) with
  | true=>exact ih
  | false=>
   show ((s::treeArgs (handL g f (k+1) l) l).all isTr)=true
   rw [List.all_cons,ih,Bool.and_true]
   rw [Bool.or_eq_false_iff] at hb
   cases s <;> first|rfl|(have h1:false=true:=h.1;cases h1)|(have h1:true=false:=hb.1;cases h1)
theorem dedup_in:∀ (l m:List Nat),∀ b∈dedup l m,b∈l∨b∈m:=by
 intro l m
 induction m generalizing l with
 | nil=>intro b h;exact .inl h
 | cons x m ih=>
  intro b h
  unfold dedup at h
  split at h
  ·rcases ih _ b h with h|h
   ·exact .inl h
   ·exact .inr (List.mem_cons_of_mem _ h)
  ·rcases ih _ b h with h|h
   ·first
     | (rcases List.mem_append.1 h with h|h
        ·exact .inl h
        ·exact .inr (by simp at h;simp [h]))
     | (rcases List.mem_cons.1 h with h|h
        ·exact .inr (by simp [h])
        ·exact .inl h)
   ·exact .inr (List.mem_cons_of_mem _ h)
theorem refsFr_in {fr:Fr} {W:List Nat} (hW:clsW fr W=true):∀ (l:List Nat),(∀ b∈l,b∈W)→∀ b∈refsFr fr l,b∈W
 | [],_,b,h=>by cases h
 | i::l,hl,b,h=>by
  unfold refsFr at h
  rcases List.mem_append.1 h with h|h
  ·have h1:=List.all_eq_true.1 hW i (hl i (by simp))
   cases hi:fr[i]? with
   | none=>rw [hi] at h;cases h
   | some lb=>
    rw [hi] at h h1
    exact hasN_iff.1 (List.all_eq_true.1 h1 b h)
  ·exact refsFr_in hW l (fun b hb=>hl b (by simp [hb])) b h
theorem close_in {fr:Fr} {W:List Nat} (hW:clsW fr W=true):∀ (n:Nat) (l:List Nat),(∀ b∈l,b∈W)→∀ b∈close fr n l,b∈W
 | 0,l,hl,b,h=>hl b h
 | n+1,l,hl,b,h=>close_in hW n (dedup l (refsFr fr l)) (fun c hc=>(dedup_in _ _ c hc).elim (hl c) (refsFr_in hW l hl c)) b h
theorem wrB_same {g:Cfg} {C:CallF} {env:Env} {fr fr':Fr} {op:Op} {x:SV} {wl:List Nat} (h:wrB env op=some wl) (hk:∀ c args tys fn pa qa,op=.call ⟨.value c,args,tys⟩→calleeS (rd env c)=some (fn,pa,qa)→(pa++args.toList.map (rd env)++qa).all isTp=true→clsW fr (SV.refsL (pa++args.toList.map (rd env)++qa))=true) (hx:evT g C env fr op=some (x,fr',[])):∀ b,b ∉ wl→b < fr.length→fr'[b]?=fr[b]?:=by
 cases op
 case alloc T=>
  unfold evT evW at hx
  simp only [isW] at hx
  split at hx
  ·cases hx
   intro b _ hb
   exact List.getElem?_append_left hb
  ·cases hx
 case box T y=>
  unfold evT evW at hx
  simp only [isW] at hx
  split at hx
  ·cases hx
   intro b _ hb
   exact List.getElem?_append_left hb
  ·cases hx
 case makeSlice t l c=>
  unfold evT evW makeE at hx
  simp only [isW] at hx
  repeat' (split at hx)
  all_goals first
   | (cases hx;intro b _ hb;exact List.getElem?_append_left hb)
   | (cases hx;done)
 case store t a y=>
  unfold evT evW storeE at hx
  simp only [isW] at hx
  unfold wrB at h
  intro b hb hlt
  split at hx
  ·cases hx
  ·split at hx
   ·cases hx
   ·cases ha:rd env a with
    | lp i j=>
     simp only [ha] at h hx
     cases h
     split at hx
     ·split at hx
      ·cases hx
       exact List.getElem?_set_ne (by intro e;exact hb (by simp [e]))
      ·cases hx
     ·cases hx
    | le i sz k j=>
     simp only [ha] at h hx
     split at h
     ·rename_i hall
      cases h
      split at hx
      ·split at hx
       ·cases hx
       ·split at hx
        ·cases hx
        ·split at hx
         ·cases hx
         ·split at hx
          ·cases hx
          ·split at hx
           ·cases hx
           ·cases hx
            rw [rchs_trees hall]
            exact List.getElem?_set_ne (by intro e;exact hb (by simp [e]))
      ·cases hx
     ·cases h
    | _=>simp only [ha] at h;cases h
 case call c=>
  obtain ⟨callee,args,tys⟩:=c
  cases callee
  case builtin b'=>
   cases b'
   case copy=>
    unfold evT evW at hx
    simp only [isW] at hx
    unfold wrB at h
    split at hx
    ·rename_i u v t u' hl ht
     simp only [hl] at h
     intro b hb hlt
     have key:∀ (i:Nat),wl=[i]→∀ zs sz a n,copyRow fr zs i sz a n=some (x,fr',[])→fr'[b]?=fr[b]?:=fun i hi zs sz a n hc=>by
      unfold copyRow at hc
      split at hc
      ·split at hc
       ·cases hc
        exact List.getElem?_set_ne (by intro e;exact hb (by simp [hi,e]))
       ·cases hc
      ·cases hc
     unfold copyE at hx
     split at hx
     ·cases hx
     ·split at hx
      ·cases hx
      ·split at hx
       ·cases hx
       ·split at hx
        ·rename_i hu
         simp only [hu] at h
         cases h
         split at hx
         ·exact key _ rfl _ _ _ _ hx
         ·cases hx
        ·rename_i hu
         simp only [hu] at h
         cases h
         split at hx
         ·exact key _ rfl _ _ _ _ hx
         ·cases hx
        ·cases hx
    ·cases hx
   all_goals (unfold wrB at h;cases h)
  case value f=>
   unfold evT evW callE at hx
   simp only [isW] at hx
   unfold wrB at h
   simp only at h
   split at h
   ·rename_i f' pa qa hcal
    simp only [hcal] at hx
    split at h
    ·rename_i hall
     cases h
     have hcl:=hk f args tys f' pa qa rfl hcal hall
     intro b hnb hlt
     unfold callS at hx
     rw [rchs_trees (treeArgs_tp 0 hall)] at hx
     split at hx
     ·cases hx
     ·split at hx
      ·split at hx
       ·cases hx
       ·split at hx
        ·cases hx;rfl
        ·cases hx
         exact List.getElem?_append_left hlt
      ·rename_i h0 ht hh
       simp only at hx
       have hin:∀ c∈close fr 4 (h0::ht),c∈SV.refsL (pa++args.toList.map (rd env)++qa):=close_in hcl 4 _ fun c hc=>by
        rw [← hh] at hc
        rcases dedup_in _ _ c hc with hc|hc
        ·cases hc
        ·exact handRefs_in _ _ c hc
       split at hx
       ·cases hx
       ·split at hx
        ·cases hx
        ·split at hx
         ·cases hx
         ·split at hx
          ·cases hx
          ·rename_i r fr2 hcl2 hkd
           simp only [Option.some.injEq,Prod.mk.injEq] at hx
           obtain ⟨-,rfl,hkz⟩:=hx
           have e0:freeze fr []=fr:=rfl
           have e1:∀ z:Fr,killFr [] z=z:=fun z=>rfl
           unfold Go.Proofs.YtjdhnoffoknlnaaGreatDoor.back
           rw [hkz,e0,e1,List.getElem?_append_left (by rw [layBack_len];exact hlt)]
           exact layBack_off _ _ _ _ _ fun hc=>hnb (hin b hc)
    ·cases h
   ·cases h
  all_goals (unfold wrB at h;cases h)
 all_goals (unfold wrB at h;cases h)
theorem stab_spec {ops:Array Oper} {op:Op} {j m:Nat} (h:stabB ops op j m=true) {t:Nat} (ht:.tmp t∈op.operands):∀ (q:Nat) (oq:Oper),j≤q→q < m→ops[q]?=some oq→oq.dst≠some t:=by
 intro q oq hj hm hq hd
 have h1:=List.all_eq_true.1 h q (List.mem_range.2 hm)
 have e1:Nat.blt q j=false:=by rw [← Bool.not_eq_true,Nat.blt_eq];omega
 rw [e1,hq] at h1
 simp only [hd,Bool.false_or,Bool.not_eq_true'] at h1
 have:t∈tmpsOp op:=by
  unfold tmpsOp
  rw [List.mem_filterMap]
  exact ⟨.tmp t,Array.mem_toList_iff.2 ht,rfl⟩
 exact absurd this (hasN_not.1 h1)
theorem disB_spec {w r:Option (List Nat)} (h:disB w r=true):∃ wl rl,w=some wl∧r=some rl∧∀ b∈rl,b ∉ wl:=by
 unfold disB at h
 split at h
 ·rename_i wl rl
  refine ⟨wl,rl,rfl,rfl,fun b hb hw=>?_⟩
  have:=List.all_eq_true.1 h b hw
  rw [Bool.not_eq_true'] at this
  exact hasN_not.1 this hb
 ·cases h
section
variable {g:Cfg} {γ:Glob} {κ:Ctx} {C:CallF} {ops:Array Oper} {effs:List Nat} {n:Nat} {E:Nat→Env} {F:Nat→Fr}
abbrev StepsF (g:Cfg) (C:CallF) (ops:Array Oper) (effs:List Nat) (E:Nat→Env) (F:Nat→Fr):Prop:=∀ (i:Nat) (o:Oper),ops[i]?=some o→StepF g C effs ops i o (E i) (F i) (E (i+1)) (F (i+1))
abbrev StepsB (g:Cfg) (C:CallF) (ops:Array Oper) (effs:List Nat) (E:Nat→Env) (F:Nat→Fr) (B:Nat):Prop:=B≤ops.size∧∀ (i:Nat) (o:Oper),i < B→ops[i]?=some o→StepF g C effs ops i o (E i) (F i) (E (i+1)) (F (i+1))
theorem stepsB (hE:StepsF g C ops effs E F):StepsB g C ops effs E F ops.size:=⟨Nat.le_refl _,fun i o _ ho=>hE i o ho⟩
variable {B:Nat}
theorem EB_mono (hE:StepsB g C ops effs E F B) (t j:Nat):∀ i,j≤i→i≤B→(∀ (k:Nat) (o:Oper),j≤k→k < i→ops[k]?=some o→o.dst≠some t)→E i t=E j t
 | 0,h,_,_=>by obtain rfl:j=0:=by omega
               rfl
 | i+1,h,hi,hk=>by
  rcases Nat.lt_or_ge i j with h1|h1
  ·obtain rfl:j=i+1:=by omega
   rfl
  ·have hB:=hE.1
   have ho:=Array.getElem?_eq_getElem (xs:=ops) (i:=i) (by omega)
   have hd:=hk i _ h1 (by omega) ho
   have e:E (i+1) t=E i t:=by
    have:=(hE.2 i _ (by omega) ho).2
    split at this
    ·obtain ⟨x,_,h2⟩:=this;rw [h2,updO_off hd]
    ·rcases this with ⟨_,x,_,h2⟩|⟨_,_,h2⟩
     ·rw [h2,updO_off hd]
     ·rw [h2,updO_off hd]
   rw [e]
   exact EB_mono hE t j i h1 (by omega) fun k o hjk hki=>hk k o hjk (by omega)
theorem EF_mono (hE:StepsF g C ops effs E F) (t j:Nat) (i:Nat) (h:j≤i) (hi:i≤ops.size) (hk:∀ (k:Nat) (o:Oper),j≤k→k < i→ops[k]?=some o→o.dst≠some t):E i t=E j t:=EB_mono (stepsB hE) t j i h hi hk
theorem FB_one (hE:StepsB g C ops effs E F B) {i:Nat} (hi:i < B) (hn:i ∉ effs):F (i+1)=F i:=by
 have hB:=hE.1
 have:=(hE.2 i _ hi (Array.getElem?_eq_getElem (by omega))).2
 have hD:∀ {op x},step g C (some effs) i (E i) (F i) op=some (x,F (i+1),[])→F (i+1)=F i:=fun {op x} h=>by
  unfold step at h
  simp only [hasN_not.2 hn] at h
  exact (evD_same h).1
 split at this
 ·obtain ⟨x,h2,_⟩:=this;exact hD h2
 ·rcases this with ⟨_,x,h2,_⟩|⟨_,h2,_⟩
  ·exact hD h2
  ·exact h2
theorem FB_const (hE:StepsB g C ops effs E F B) (j:Nat):∀ i,j≤i→i≤B→(∀ m,j≤m→m < i→m ∉ effs)→F i=F j
 | 0,h,_,_=>by obtain rfl:j=0:=by omega
               rfl
 | i+1,h,hi,hm=>by
  rcases Nat.lt_or_ge i j with h1|h1
  ·obtain rfl:j=i+1:=by omega
   rfl
  ·rw [FB_one hE (by omega) (hm i h1 (by omega))]
   exact FB_const hE j i h1 (by omega) fun m h2 h3=>hm m h2 (by omega)
theorem FF_const (hE:StepsF g C ops effs E F) (j:Nat) (i:Nat) (h:j≤i) (hi:i≤ops.size) (hm:∀ m,j≤m→m < i→m ∉ effs):F i=F j:=FB_const (stepsB hE) j i h hi hm
theorem F_agree (hE:StepsB g C ops effs E F B) (s b:Nat) (hb:b < (F s).length):∀ e,s≤e→e≤B→(∀ (m:Nat) (om:Oper),s≤m→m < e→m∈effs→ops[m]?=some om→∃ wl,wrB (E m) om.op=some wl∧b ∉ wl)→(F e)[b]?=(F s)[b]?
 | 0,h,_,_=>by obtain rfl:s=0:=by omega
               rfl
 | e+1,h,he,hw=>by
  rcases Nat.lt_or_ge e s with h1|h1
  ·obtain rfl:s=e+1:=by omega
   rfl
  ·have hB:=hE.1
   have ih:=F_agree hE s b hb e h1 (by omega) fun m om h2 h3=>hw m om h2 (by omega)
   rw [← ih]
   by_cases hm:e∈effs
   ·have ho:=Array.getElem?_eq_getElem (xs:=ops) (i:=e) (by omega)
    obtain ⟨wl,hwl,hnb⟩:=hw e _ h1 (by omega) hm ho
    have hlt:b < (F e).length:=by
     obtain ⟨lb,hlb⟩:=get_of_lt hb
     rw [hlb] at ih
     exact lt_of_get ih
    have hT:∀ {x},step g C (some effs) e (E e) (F e) (ops[e]'(by omega)).op=some (x,F (e+1),[])→(F (e+1))[b]?=(F e)[b]?:=fun {x} h=>by
     unfold step at h
     have hh:hasN effs e=true:=by
      rw [← Bool.not_eq_false]
      exact fun hf=>hasN_not.1 hf hm
     simp only [hh] at h
     refine wrB_same hwl (fun c args tys fn pa qa hop hcal hall=>?_) h b hnb hlt
     have h3:=flt_ok (hE.2 e _ (by omega) ho).1
     unfold okW at h3
     simp only [hh,ho,hop,hcal,hall] at h3
     exact h3
    have:=(hE.2 e _ (by omega) ho).2
    split at this
    ·obtain ⟨x,h2,_⟩:=this;exact hT h2
    ·rcases this with ⟨_,x,h2,_⟩|⟨_,h2,_⟩
     ·exact hT h2
     ·rw [h2]
   ·rw [FB_one hE (by omega) hm]
theorem evB_stab (hE:StepsB g C ops effs E F B) {op:Op} {j m:Nat} (hjm:j≤m) (hm:m≤B) (h:stabB ops op j m=true):∀ y∈op.operands,evE (E m) y=evE (E j) y:=by
 intro y hy
 cases y with
 | tmp t=>exact EB_mono hE t j m hjm hm fun k o hk hkm hko=>stab_spec h hy k o hk hkm hko
 | _=>rfl
theorem evE_stab (hE:StepsF g C ops effs E F) {op:Op} {j m:Nat} (hjm:j≤m) (hm:m≤ops.size) (h:stabB ops op j m=true):∀ y∈op.operands,evE (E m) y=evE (E j) y:=evB_stab (stepsB hE) hjm hm h
structure MidF (γ:Glob) (κ:Ctx) (ops:Array Oper) (effs:List Nat) (n:Nat) (E:Nat→Env) (F:Nat→Fr) (p:Nat) (L:Ls) (listed:Array Bool) (a:Act) (w:World):Prop where
 hd:Marks κ w a.defers
 hn:a.tmps.size=n
 hs:listed.size=ops.size
 hp:p≤ops.size
 low:∀ e∈effs,e < p→listed.getD e true=true
 high:∀ e∈effs,p≤e→e < ops.size→listed.getD e true=false
 core:Core γ κ (F p) L w
 done:∀ (k:Nat) (o:Oper) (t:Nat),ops[k]?=some o→o.dst=some t→listed.getD k true=true→SR (MA κ.M (F p) L) L w (E (k+1) t) (a.tmps.getD t undef)
 rest:∀ (t:Nat),(∀ (k:Nat) (o:Oper),ops[k]?=some o→o.dst=some t→listed.getD k true=false)→SR (MA κ.M (F p) L) L w (E 0 t) (a.tmps.getD t undef)
 clos:∀ (k:Nat) (o:Oper),ops[k]?=some o→listed.getD k true=true→∀ e∈o.after,Region.binds .any e=true→listed.getD e.on false=true
variable {p:Nat} {L:Ls} {listed:Array Bool} {a:Act} {w:World} {E':Nat→Env}
theorem MidF.start (hd:Marks κ w a.defers) (hn:a.tmps.size=n) (hC:Core γ κ (F 0) L w) (hV:∀ t,SR (MA κ.M (F 0) L) L w (E 0 t) (a.tmps.getD t undef)):MidF γ κ ops effs n E F 0 L (Array.replicate ops.size false) a w where
 hd:=hd
 hn:=hn
 hs:=by simp
 hp:=Nat.zero_le _
 low:=fun e _ h=>by omega
 high:=fun e _ _ he=>by rw [Array.getD_eq_getD_getElem?,Array.getElem?_replicate,if_pos he];rfl
 core:=hC
 done:=fun k o t ho _ hl=>by
  have hk:=(Array.getElem?_eq_some_iff.1 ho).1
  rw [Array.getD_eq_getD_getElem?,Array.getElem?_replicate,if_pos hk] at hl
  cases hl
 rest:=fun t _=>hV t
 clos:=fun k o ho hl=>by
  have hk:=(Array.getElem?_eq_some_iff.1 ho).1
  rw [Array.getD_eq_getD_getElem?,Array.getElem?_replicate,if_pos hk] at hl
  cases hl
theorem MidF.anc (h:MidF γ κ ops effs n E F p L listed a w) {i k:Nat} (ha:Anc ops i k):(∀ (o:Oper),ops[i]?=some o→∀ e∈o.after,Region.binds .any e=true→listed.getD e.on false=true)→listed.getD k true=true:=by
 induction ha with
 | one i o e ho he hb=>intro hi;exact getD_false (hi o ho e he hb)
 | more i k o e ho he hb ha ih=>
  intro hi
  have h1:=getD_false (hi o ho e he hb)
  exact ih fun o' ho'=>h.clos e.on o' ho' h1
theorem MidF.slot (hok:DrawOkF ops effs) (hE:StepsF g C ops effs E F) (h:MidF γ κ ops effs n E F p L listed a w) {i t:Nat} (hi:i≤ops.size)
  (h1:∀ (k:Nat) (ok:Oper),ops[k]?=some ok→ok.dst=some t→listed.getD k true=true→k < i) (h2:∀ (k:Nat) (ok:Oper),ops[k]?=some ok→ok.dst=some t→listed.getD k true=false→i≤k):SR (MA κ.M (F p) L) L w (E i t) (a.tmps.getD t undef):=by
 by_cases hex:∃ (k:Nat) (ok:Oper),ops[k]?=some ok∧ok.dst=some t∧listed.getD k true=true
 ·obtain ⟨k,ok,hk,hd,hl⟩:=hex
  have hki:=h1 k ok hk hd hl
  rw [EF_mono hE t (k+1) i (by omega) hi fun m om hm1 hm2 hm3=>hok.dst m om k ok t hm3 hk (by omega) hd]
  exact h.done k ok t hk hd hl
 ·have hno:∀ (k:Nat) (o:Oper),ops[k]?=some o→o.dst=some t→listed.getD k true=false:=fun k o hk hd=>by
   rw [← Bool.not_eq_true];exact fun hl=>hex ⟨k,o,hk,hd,hl⟩
  rw [EF_mono hE t 0 i (Nat.zero_le _) hi fun k o _ hki hk hd=>by have:=h2 k o hk hd (hno k o hk hd);omega]
  exact h.rest t hno
theorem all_listedB (hok:DrawB ops) {listed:Array Bool} (hs:listed.size=ops.size) (hr:Region.ready .any ops listed=[]):∀ k,k < ops.size→listed.getD k true=true:=by
 intro k
 induction k using Nat.strongRecOn with
 | _ k ih=>
  intro hk
  rw [← Bool.not_eq_false]
  intro hl
  have hm:k∈Region.ready .any ops listed:=mem_ready.2 ⟨hl,ops[k],Array.getElem?_eq_getElem hk,fun e he hb=>by
   have hlt:=hok.back k _ (Array.getElem?_eq_getElem hk) e he hb
   exact getD_true (by rw [hs];omega) (ih e.on hlt (by omega))⟩
  rw [hr] at hm
  cases hm
theorem rdB_in {fr:Fr} {env:Env} {op:Op} {rl:List Nat} (hC:Core γ κ fr L w) (h:rdB env op=some rl) (hop:∀ y∈op.operands,SR (MA κ.M fr L) L w (evE env y) (a.eval y)):∀ b∈rl,b < fr.length:=by
 have key:∀ y∈op.operands,∀ b,(∃ j,rd env y=.lp b j)∨(∃ sz k j,rd env y=.le b sz k j)∨rd env y=.ls b→b < fr.length:=fun y hy b hb=>by
  have h1:=rd_ok (hop y hy)
  rcases hb with ⟨j,hb⟩|⟨sz,k,j,hb⟩|hb
  ·rw [hb] at h1
   obtain ⟨g,h2,_⟩:=inv_lp h1
   exact hC.lim _ _ h2
  ·rw [hb] at h1
   obtain ⟨_,_,_,h2,_⟩:=inv_le h1
   exact hC.lim _ _ h2
  ·rw [hb] at h1
   obtain ⟨h2,_⟩:=inv_ls h1
   exact hC.lim _ _ h2
 intro b hb
 cases op
 case load t y=>
  refine key y (by simp [Op.operands]) b ?_
  rcases rdB_load0 h b hb with ⟨j,e⟩|⟨sz,k,j,e⟩
  ·exact .inl ⟨j,e⟩
  ·exact .inr (.inl ⟨sz,k,j,e⟩)
 case indexAddr t x i=>exact key x (by simp [Op.operands]) b (.inr (.inr ((rdB_ix h).2 b hb)))
 case binOp b' xt x y yt=>rw [(rdB_bin h).1] at hb;cases hb
 case call c=>rw [(rdB_call h).1] at hb;cases hb
 all_goals first
  | (have h:some []=some rl:=h;cases h;cases hb;done)
  | (have h:none=some rl:=h;cases h)
theorem mid_dn (hE:StepsB g C ops effs E F B) (h:MidF γ κ ops effs n E' F p L listed a w) {i:Nat} {o:Oper} (ho:ops[i]?=some o) (hl:listed.getD i true=false) (hie:i ∉ effs) {m:Nat} {om:Oper} (h1:i < m) (h2:m < p) (hmB:m < B) (h3:m∈effs) (hom:ops[m]?=some om):∃ wl rl,wrB (E m) om.op=some wl∧rdB (E i) o.op=some rl∧∀ b∈rl,b ∉ wl:=by
 have hb:((Region.before ops).getD m 0).testBit i=false:=by
  rw [← Bool.not_eq_true]
  intro hb
  have:=h.anc (before_anc hb) fun o' ho'=>h.clos m o' ho' (h.low m h3 h2)
  rw [hl] at this;cases this
 have hf:=List.all_eq_true.1 (flt_all (hE.2 m om hmB hom).1) i (List.mem_range.2 h1)
 unfold fltPair at hf
 have hm:hasN effs m=true:=by rw [← Bool.not_eq_false];exact fun hf=>hasN_not.1 hf h3
 simp only [hom,ho,hm,hasN_not.2 hie,hb,Bool.false_or,Bool.and_eq_true] at hf
 obtain ⟨wl,rl,e1,e2,e3⟩:=disB_spec hf.2
 have hmsz:=(Array.getElem?_eq_some_iff.1 hom).1
 rw [rdB_env (evB_stab hE (by omega) (by omega) hf.1)] at e2
 exact ⟨wl,rl,e1,e2,e3⟩
theorem mid_trans (hE:StepsB g C ops effs E F B) (h:MidF γ κ ops effs n E' F p L listed a w) (hp:p≤B) {i:Nat} {o:Oper} (hiB:i < B) (ho:ops[i]?=some o) (hl:listed.getD i true=false) (hie:i ∉ effs) (hready:∀ k,Anc ops i k→listed.getD k true=true)
  (hop:∀ y∈o.op.operands,SR (MA κ.M (F p) L) L w (evE (E i) y) (a.eval y)) {x:SV} (hx:step g C (some effs) i (E i) (F i) o.op=some (x,F (i+1),[])):step g C (some effs) i (E i) (F p) o.op=some (x,F p,[]):=by
 have hB:=hE.1
 have hx':=hx
 unfold step at hx ⊢
 simp only [hasN_not.2 hie] at hx ⊢
 have hfi:=FB_one hE hiB hie
 rw [hfi] at hx
 -- the effects between
 have up:∀ (m:Nat) (om:Oper),p≤m→m < i→m∈effs→ops[m]?=some om→∃ wl rl,wrB (E m) om.op=some wl∧rdB (E i) o.op=some rl∧∀ b∈rl,b ∉ wl:=fun m om h1 h2 h3 hom=>by
  have hb:((Region.before ops).getD i 0).testBit m=false:=by
   rw [← Bool.not_eq_true]
   intro hb
   have:=hready m (before_anc hb)
   rw [h.high m h3 h1 (by omega)] at this;cases this
  have hf:=List.all_eq_true.1 (flt_all (hE.2 i o hiB ho).1) m (List.mem_range.2 h2)
  unfold fltPair at hf
  have hm:hasN effs m=true:=by rw [← Bool.not_eq_false];exact fun hf=>hasN_not.1 hf h3
  simp only [hom,ho,hm,hasN_not.2 hie,hb,Bool.false_or,Bool.and_eq_true] at hf
  obtain ⟨wl,rl,e1,e2,e3⟩:=disB_spec hf.2
  rw [wrB_env (evB_stab hE (by omega) (by omega) hf.1)] at e1
  exact ⟨wl,rl,e1,e2,e3⟩
 have dn:=fun (m:Nat) (om:Oper) (h1:i < m) (h2:m < p) (h3:m∈effs) (h4:ops[m]?=some om)=>mid_dn hE h ho hl hie h1 h2 (by omega) h3 h4
 by_cases hex:∃ m,m∈effs∧((p≤m∧m < i)∨(i < m∧m < p))
 ·obtain ⟨m,hme,hmm⟩:=hex
  have hmsz:m < ops.size:=by have:=hp;omega
  obtain ⟨_,rl,_,hrl,_⟩:∃ wl rl,wrB (E m) (ops[m]).op=some wl∧rdB (E i) o.op=some rl∧∀ b∈rl,b ∉ wl:=by
   rcases hmm with hmm|hmm
   ·exact up m _ hmm.1 hmm.2 hme (Array.getElem?_eq_getElem hmsz)
   ·exact dn m _ hmm.1 hmm.2 hme (Array.getElem?_eq_getElem hmsz)
  cases hnc:isCall o.op with
  | true=>exact isCall_same hnc hrl hx
  | false=>
  unfold evD at hx ⊢
  simp only [hnc] at hx ⊢
  obtain ⟨hxe,_,_⟩:=withFr_ok hx
  have hlt:=rdB_lt hrl hxe
  have hag:∀ b∈rl,(F i)[b]?=(F p)[b]?:=fun b hb=>by
   rcases Nat.lt_or_ge i p with h1|h1
   ·refine (F_agree hE i b (hlt b hb) p (by omega) hp fun m om h2 h3 h4 h5=>?_).symm
    have hne:m≠i:=fun e=>hie (by rw [← e];exact h4)
    obtain ⟨wl,rl',e1,e2,e3⟩:=dn m om (by omega) h3 h4 h5
    rw [hrl] at e2
    cases e2
    exact ⟨wl,e1,e3 b hb⟩
   ·have hbp:b < (F p).length:=rdB_in h.core hrl hop b hb
    refine F_agree hE p b hbp i h1 (by omega) fun m om h2 h3 h4 h5=>?_
    obtain ⟨wl,rl',e1,e2,e3⟩:=up m om h2 h3 h4 h5
    rw [hrl] at e2
    cases e2
    exact ⟨wl,e1,e3 b hb⟩
  rw [← rdB_same hrl hag,hxe]
  rfl
 ·have hFe:F i=F p:=by
   rcases Nat.lt_or_ge i p with h1|h1
   ·refine (FB_const hE i p (by omega) hp fun m h2 h3 h4=>?_).symm
    have hne:m≠i:=fun e=>hie (by rw [← e];exact h4)
    exact hex ⟨m,h4,.inr ⟨by omega,h3⟩⟩
   ·exact FB_const hE p i h1 (by omega) fun m h2 h3 h4=>hex ⟨m,h4,.inl ⟨h2,h3⟩⟩
  rw [← hFe]
  exact hx
theorem wpAny_midF {rd:Option Nat} {dn:Nat} (hS:CallSnd g.P γ C) (hok:DrawOkF ops effs) (hdst:dstOk n ops.toList=true) (hE:StepsF g C ops effs E F) {Q:Exit→Act→World→Prop}
  (hK:∀ L a w,Marks κ w a.defers→a.tmps.size=n→Core γ κ (F ops.size) L w→(∀ t,SR (MA κ.M (F ops.size) L) L w (E ops.size t) (a.tmps.getD t undef))→Q .normal a w) :
  ∀ (fuel:Nat) (p:Nat) (L:Ls) (listed:Array Bool) (a:Act) (w:World),un' listed ops.size≤fuel→MidF γ κ ops effs n E F p L listed a w→wpAnyIn (Fw rd) dn g.P .any ops Q fuel listed a w:=by
 have hdst':∀ (i:Nat) (o:Oper),ops[i]?=some o→∀ d,o.dst=some d→d < n:=fun i o ho d hd=>dst_lt hdst (Array.mem_toList_iff.2 (Array.mem_of_getElem? ho)) hd
 have fin:∀ (p:Nat) (L:Ls) (listed:Array Bool) (a:Act) (w:World),(∀ k,k < ops.size→listed.getD k true=true)→MidF γ κ ops effs n E F p L listed a w→Q .normal a w:=fun p L listed a w hall h=>by
  have hm:∀ m,p≤m→m < ops.size→m ∉ effs:=fun m h1 h2 h3=>by
   have:=h.high m h3 h1 h2
   rw [hall m h2] at this;cases this
  have hF:=FF_const hE p ops.size h.hp (Nat.le_refl _) hm
  refine hK L a w h.hd h.hn (by rw [hF];exact h.core) fun t=>?_
  rw [hF]
  exact h.slot hok hE (Nat.le_refl _) (fun k ok hk _ _=>(Array.getElem?_eq_some_iff.1 hk).1) (fun k ok hk _ hl=>by
   have:=hall k (Array.getElem?_eq_some_iff.1 hk).1
   rw [hl] at this;cases this)
 intro fuel
 induction fuel with
 | zero=>
  intro p L listed a w hu h
  have hall:=un_zero (listed:=listed) ops.size (by omega)
  refine ⟨?_,fin p L listed a w hall h⟩
  cases hr:Region.ready .any ops listed with
  | nil=>rfl
  | cons i l=>
   have hm:i∈Region.ready .any ops listed:=by rw [hr];simp
   obtain ⟨hl,o,ho,_⟩:=mem_ready.1 hm
   have:=hall i (Array.getElem?_eq_some_iff.1 ho).1
   rw [hl] at this;cases this
 | succ fuel ih=>
  intro p L listed a w hu h
  refine ⟨fun hr=>fin p L listed a w (all_listedB hok.toDrawB h.hs hr) h,fun i hi=>?_⟩
  obtain ⟨hl,o,ho,hedge⟩:=mem_ready.1 hi
  have hisz:=(Array.getElem?_eq_some_iff.1 ho).1
  have hst:=hE i o ho
  have hu':un' (listed.setIfInBounds i true) ops.size≤fuel:=by
   have:=un_set hl ops.size
   rw [if_pos hisz] at this
   omega
  have hready:∀ k,Anc ops i k→listed.getD k true=true:=fun k ha=>h.anc ha fun o' ho'=>by rw [ho] at ho';cases ho';exact hedge
  have edge:∀ k,hasEdge o k=true→listed.getD k true=true∧k < i:=fun k hk=>by
   obtain ⟨e,he,hb,rfl⟩:=hasEdge_iff hk
   exact ⟨getD_false (hedge e he hb),hok.back i o ho e he hb⟩
  have hslot:∀ t,(.tmp t∈o.op.operands∨∃ j oj,ops[j]?=some oj∧oj.dst=some t∧hasEdge o j=true)→SR (MA κ.M (F p) L) L w (E i t) (a.tmps.getD t undef):=fun t ht=>by
   refine h.slot hok hE (by omega) (fun k ok hk hd hlk=>?_) (fun k ok hk hd hlk=>?_)
   ·have hki:k≠i:=fun e=>by subst e;rw [hl] at hlk;cases hlk
    rcases ht with hy|⟨j,oj,hoj,hdj,hej⟩
    ·rcases hok.use i o k ok t ho hk hki hd hy with h1|h1
     ·exact (edge k h1).2
     ·obtain ⟨e,he,hb,rfl⟩:=hasEdge_iff h1
      have:=getD_false (h.clos k ok hk hlk e he hb)
      rw [hl] at this;cases this
    ·by_cases hkj:k=j
     ·subst hkj;exact (edge k hej).2
     ·exact absurd hdj (hok.dst j oj k ok t hoj hk hkj hd)
   ·rcases Nat.lt_or_ge k i with hlt|hge
    ·rcases ht with hy|⟨j,oj,hoj,hdj,hej⟩
     ·rcases hok.use i o k ok t ho hk (by omega) hd hy with h1|h1
      ·have:=(edge k h1).1
       rw [hlk] at this;cases this
      ·obtain ⟨e,he,hb,rfl⟩:=hasEdge_iff h1
       have:=hok.back k ok hk e he hb
       omega
     ·by_cases hkj:k=j
      ·subst hkj;have:=(edge k hej).1;rw [hlk] at this;cases this
      ·exact absurd hdj (hok.dst j oj k ok t hoj hk hkj hd)
    ·exact hge
  have hop:∀ y∈o.op.operands,SR (MA κ.M (F p) L) L w (evE (E i) y) (a.eval y):=fun y hy=>by
   cases y with
   | const v=>exact cv_ok v
   | global g=>exact .dead _
   | func f=>exact .t _ _ (.fn _ [] #[] #[] rfl (fun j x u hx _=>by simp at hx))
   | tmp t=>exact hslot t (.inl hy)
  -- an effect comes up where its turn is
  have heff:i∈effs→F i=F p:=fun hie=>by
   have hpi:p≤i:=by
    rcases Nat.lt_or_ge i p with h1|h1
    ·have:=h.low i hie h1;rw [hl] at this;cases this
    ·exact h1
   refine FF_const hE p i hpi (by omega) fun m h1 h2 h3=>?_
   have:=hready m (hok.eff i hie m h3 hisz h2)
   rw [h.high m h3 h1 (by omega)] at this;cases this
  -- what an operation that is no effect gives,it gives here too
  have htrans:∀ {x},step g C (some effs) i (E i) (F i) o.op=some (x,F (i+1),[])→step g C (some effs) i (E i) (F p) o.op=some (x,(if i∈effs then F (i+1) else F p),[]):=fun {x} hx=>by
   by_cases hie:i∈effs
   ·rw [if_pos hie,← heff hie];exact hx
   ·rw [if_neg hie]
    exact mid_trans (stepsB hE) h (by have:=h.hp;omega) hisz ho hl hie hready hop hx
  -- what comes behind this operation,once it is carried out
  have next:∀ (v:Value) (w':World) (L':Ls) (x:SV) (f1:Fr),f1=(if i∈effs then F (i+1) else F p)→Tr κ.M (F p) L w f1 L' w' []→Core γ κ f1 L' w'→SR (MA κ.M f1 L') L' w' x v→E (i+1)=updO (E i) o.dst x→wpAnyIn (Fw rd) dn g.P .any ops Q fuel (listed.setIfInBounds i true) (a.put o.dst v) w':=fun v w' L' x f1 hf1 hT hC' hv hEi=>by
   obtain ⟨q,hq,hqs,hlow,hhigh⟩:∃ q,f1=F q∧q≤ops.size∧(∀ e∈effs,e < q→(listed.setIfInBounds i true).getD e true=true)∧(∀ e∈effs,q≤e→e < ops.size→(listed.setIfInBounds i true).getD e true=false):=by
    by_cases hie:i∈effs
    ·refine ⟨i+1,by rw [hf1,if_pos hie],hisz,fun e he hlt=>?_,fun e he hge hes=>?_⟩
     ·by_cases hei:e=i
      ·subst hei
       rw [Array.getD_eq_getD_getElem?,Array.getElem?_setIfInBounds_self_of_lt (by rw [h.hs];exact hisz)];rfl
      ·rw [getD_set_ne true (Ne.symm hei)]
       exact hready e (hok.eff i hie e he hisz (by omega))
     ·rw [getD_set_ne true (by omega),← Bool.not_eq_true]
      intro hle
      have:=h.anc (hok.eff e he i hie hes (by omega)) fun o' ho'=>h.clos e o' ho' hle
      rw [hl] at this;cases this
    ·refine ⟨p,by rw [hf1,if_neg hie],h.hp,fun e he hlt=>?_,fun e he hge hes=>?_⟩
     ·have hei:e≠i:=fun e'=>hie (by rw [← e'];exact he)
      rw [getD_set_ne true (Ne.symm hei)]
      exact h.low e he hlt
     ·have hei:e≠i:=fun e'=>hie (by rw [← e'];exact he)
      rw [getD_set_ne true (Ne.symm hei)]
      exact h.high e he hge hes
   subst hq
   refine ih q L' _ _ _ hu' ⟨?_,?_,?_,hqs,hlow,hhigh,hC',fun k ok t hk hd hlk=>?_,fun t ht=>?_,fun k ok hk hlk e he hb'=>?_⟩
   ·rw [put_defers];exact h.hd.tr h.core hT
   ·rw [put_size,h.hn]
   ·rw [Array.size_setIfInBounds];exact h.hs
   ·by_cases hki:k=i
    ·subst hki
     rw [ho] at hk;cases hk
     rw [hEi,hd,put_at (by rw [h.hn];exact hdst' k o ho t hd)]
     show SR _ _ _ (upd _ t x t) v
     rw [upd_same]
     exact hv
    ·rw [put_off (hok.dst i o k ok t ho hk hki hd)]
     rw [getD_set_ne true (Ne.symm hki)] at hlk
     exact hT.sr (h.done k ok t hk hd hlk)
   ·have hi':o.dst≠some t:=fun hd=>by
     have hlt:i < listed.size:=by rw [h.hs];exact hisz
     have:=ht i o ho hd
     rw [Array.getD_eq_getD_getElem?,Array.getElem?_setIfInBounds_self_of_lt hlt] at this
     cases this
    rw [put_off hi']
    refine hT.sr (h.rest t fun k ok hk hd=>?_)
    have hki:k≠i:=fun e=>by subst e;rw [ho] at hk;cases hk;exact hi' hd
    have:=ht k ok hk hd
    rw [getD_set_ne true (Ne.symm hki)] at this
    exact this
   ·by_cases hki:k=i
    ·subst hki
     rw [ho] at hk;cases hk
     exact getD_set_true (hedge e he hb')
    ·rw [getD_set_ne true (Ne.symm hki)] at hlk
     exact getD_set_true (h.clos k ok hk hlk e he hb')
  have h2:=hst.2
  unfold wpOpIn
  simp only [ho]
  cases hg:o.guard with
  | none=>
   rw [hg] at h2
   obtain ⟨x,hst',hEi⟩:=h2
   rw [if_pos (by simp [Region.wanted,hg])]
   exact (step_ok hS (htrans hst') κ L a w h.core hop).wpIn fun v w' ⟨L',hT,hC',hv⟩=>next v w' L' x _ rfl hT hC' hv hEi
  | some gj=>
   obtain ⟨j,want⟩:=gj
   rw [hg] at h2
   have hej:=hok.guard i o j want ho hg
   have hwt:∀ W,gOf ops (E i) j want=some W→Region.wanted o (yielded ops a.tmps)=W:=fun W hW=>wanted_of (A:=MA κ.M (F p) L) (L:=L) (w:=w) hg hW fun d hdd=>by
    cases hoj:ops[j]? with
    | none=>rw [hoj] at hdd;cases hdd
    | some oj=>
     rw [hoj] at hdd
     have hdj:oj.dst=some d:=hdd
     exact ⟨hslot d (.inr ⟨j,oj,hoj,hdj,hej⟩),by rw [h.hn];exact hdst' j oj hoj d hdj⟩
   rcases h2 with ⟨hW,x,hst',hEi⟩|⟨hW,hFi,hEi⟩
   ·rw [hwt _ hW,if_pos rfl]
    exact (step_ok hS (htrans hst') κ L a w h.core hop).wpIn fun v w' ⟨L',hT,hC',hv⟩=>next v w' L' (.yes x) _ rfl hT hC' (.yes _ _ hv) hEi
   ·rw [hwt _ hW,if_neg (by simp)]
    refine ⟨fun _ _=>trivial,next undef w L .no (F p) ?_ Tr.refl h.core .no hEi⟩
    by_cases hie:i∈effs
    ·rw [if_pos hie,hFi,heff hie]
    ·rw [if_neg hie]
end
end Go.Proofs.YtjdhnoffoknlnaaGreatDoor
namespace Go.Proofs.YtjdhnoffoknlnaaGreatDoor
open Go.RowKit
end Go.Proofs.YtjdhnoffoknlnaaGreatDoor
namespace Go.Proofs.YtjdhnoffoknlnaaGreatDoor
open Go.RowKit
theorem refsL_mem {cs:List SV} {i:Nat} (h:i∈SV.refsL cs):∃ (j:Nat) (c:SV),cs[j]?=some c∧i∈c.refs:=by
 induction cs with
 | nil=>rw [SV.refsL] at h;cases h
 | cons d ds ih=>
  rw [SV.refsL,List.mem_append] at h
  rcases h with h|h
  ·exact ⟨0,d,rfl,h⟩
  ·obtain ⟨j,c,h1,h2⟩:=ih h
   exact ⟨j+1,c,by simpa using h1,h2⟩
theorem SR.reach {A:Nat→Prop} {L:Ls} {w:World} {x:SV} {v:Value} (h:SR A L w x v):∀ i∈x.refs,∃ u,L i=some u:=by
 induction h with
 | t=>intro i hi;rw [SV.refs] at hi;cases hi
 | nil=>intro i hi;rw [SV.refs] at hi;cases hi
 | tc=>intro i hi;rw [SV.refs] at hi;cases hi
 | nn=>intro i hi;rw [SV.refs] at hi;cases hi
 | lp k j g h=>intro i hi;rw [SV.refs] at hi;obtain rfl:i=k:=by simpa using hi
               exact ⟨_,h⟩
 | ls k v h hp=>intro i hi;rw [SV.refs] at hi;obtain rfl:i=k:=by simpa using hi
                exact ⟨_,h⟩
 | lv k sz a n b m c h=>intro i hi;rw [SV.refs] at hi;obtain rfl:i=k:=by simpa using hi
                        exact ⟨_,h⟩
 | le k sz e j b m c h=>intro i hi;rw [SV.refs] at hi;obtain rfl:i=k:=by simpa using hi
                        exact ⟨_,h⟩
 | lm k r h=>intro i hi;rw [SV.refs] at hi;obtain rfl:i=k:=by simpa using hi
             exact ⟨_,h⟩
 | lr k p e b n c t h hv=>
  intro i hi;rw [SV.refs] at hi;obtain rfl:i=k:=by simpa using hi
  exact ⟨_,h⟩
 | lo k p t v h hv hp=>
  intro i hi;rw [SV.refs] at hi;obtain rfl:i=k:=by simpa using hi
  exact ⟨_,h⟩
 | agg cs us hl hr ih=>
  intro i hi;rw [SV.refs] at hi
  obtain ⟨j,c,h1,h2⟩:=refsL_mem hi
  exact ih j c us[j]! h1 (by rw [Array.getElem!_eq_getD,Array.getD_eq_getD_getElem?];have:=lt_of_get h1;rw [Array.getElem?_eq_getElem (by omega)];rfl) i h2
 | tup cs us hl hr ih=>
  intro i hi;rw [SV.refs] at hi
  obtain ⟨j,c,h1,h2⟩:=refsL_mem hi
  exact ih j c us[j]! h1 (by rw [Array.getElem!_eq_getD,Array.getD_eq_getD_getElem?];have:=lt_of_get h1;rw [Array.getElem?_eq_getElem (by omega)];rfl) i h2
 | fn f cs fs us hl hr ih=>
  intro i hi;rw [SV.refs] at hi
  obtain ⟨j,c,h1,h2⟩:=refsL_mem hi
  exact ih j c (fs++us)[j]! h1 (by rw [Array.getElem!_eq_getD,Array.getD_eq_getD_getElem?];have:=lt_of_get h1;rw [Array.getElem?_eq_getElem (by omega)];rfl) i h2
 | yes x v h ih=>intro i hi;rw [SV.refs] at hi;exact ih i hi
 | no=>intro i hi;rw [SV.refs] at hi;cases hi
 | dead=>intro i hi;rw [SV.refs] at hi;cases hi
mutual
theorem SV.sub_fix {σ:Nat→Option Nat}:∀ x:SV,(∀ i∈x.refs,σ i=some i)→x.sub σ=x
 | .t x,_=>by rw [SV.sub]
 | .nil,_=>by rw [SV.sub]
 | .tc es,_=>by rw [SV.sub]
 | .nn es,_=>by rw [SV.sub]
 | .lp i j,h=>by rw [SV.sub,h i (by rw [SV.refs];simp)]
 | .ls i,h=>by rw [SV.sub,h i (by rw [SV.refs];simp)]
 | .lv i sz a n,h=>by rw [SV.sub,h i (by rw [SV.refs];simp)]
 | .le i sz k j,h=>by rw [SV.sub,h i (by rw [SV.refs];simp)]
 | .lm i,h=>by rw [SV.sub,h i (by rw [SV.refs];simp)]
 | .lo i p,h=>by rw [SV.sub,h i (by rw [SV.refs];simp)]
 | .lr i p k,h=>by rw [SV.sub,h i (by rw [SV.refs];simp)]
 | .agg cs,h=>by rw [SV.sub,SV.subL_fix cs fun i hi=>h i (by rw [SV.refs];exact hi)]
 | .tup cs,h=>by rw [SV.sub,SV.subL_fix cs fun i hi=>h i (by rw [SV.refs];exact hi)]
 | .fn f nf cs,h=>by rw [SV.sub,SV.subL_fix cs fun i hi=>h i (by rw [SV.refs];exact hi)]
 | .yes s,h=>by rw [SV.sub,SV.sub_fix s fun i hi=>h i (by rw [SV.refs];exact hi)]
 | .no,_=>by rw [SV.sub]
 | .dead,_=>by rw [SV.sub]
theorem SV.subL_fix {σ:Nat→Option Nat}:∀ cs:List SV,(∀ i∈SV.refsL cs,σ i=some i)→SV.subL σ cs=cs
 | [],_=>by rw [SV.subL]
 | c::cs,h=>by rw [SV.subL,SV.sub_fix c fun i hi=>h i (by rw [SV.refsL];simp [hi]),SV.subL_fix cs fun i hi=>h i (by rw [SV.refsL];simp [hi])]
end
theorem blkTo_fix {σ:Nat→Option Nat} (b:Lb) (h:∀ i∈b.refs,σ i=some i):BlkTo σ b b:=by
 cases b with
 | box ro T cs=>exact ⟨id,rfl,(SV.subL_fix cs h).symm⟩
 | row=>exact ⟨id,rfl,rfl⟩
 | map ro ks vs=>exact ⟨id,rfl,(SV.subL_fix vs h).symm⟩
 | own=>exact ⟨id,rfl⟩
theorem Core.inside {γ:Glob} {κ:Ctx} {fr:Fr} {L:Ls} {w:World} (hC:Core γ κ fr L w) {k:Nat} {lb:Lb} (hk:fr[k]?=some lb):∀ i∈lb.refs,i < fr.length:=by
 intro i hi
 have h:=hC.blk k lb hk
 cases lb with
 | box ro T cs=>
  obtain ⟨g,us,_,_,h3,h4⟩:=h
  obtain ⟨j,c,h5,h6⟩:=refsL_mem hi
  have hj:=lt_of_get h5
  obtain ⟨u,hu⟩:=(h4 j c us[j] h5 (Array.getElem?_eq_getElem (by omega))).reach i h6
  exact hC.lim _ _ hu
 | row=>cases hi
 | own=>cases hi
 | map ro ks vs=>
  obtain ⟨r,ents,clock,_,_,_,h4,_,h6,_⟩:=h
  obtain ⟨j,c,h5,h7⟩:=refsL_mem hi
  have hj:=lt_of_get h5
  obtain ⟨u,hu⟩:=(h6 j c ents[j] h5 (Array.getElem?_eq_getElem (by omega))).reach i h7
  exact hC.lim _ _ hu
theorem alloc_any {g:Cfg} {C:CallF} {env:Env} {fr fr':Fr} {T:Nat} {x:SV} {ks:List Nat} (h:evT g C env fr (.alloc T)=some (x,fr',ks)):∃ lb,x=.lp fr.length 0∧fr'=fr++[lb]∧ks=[]∧∀ (env2:Env) (fr2:Fr),evT g C env2 fr2 (.alloc T)=some (.lp fr2.length 0,fr2++[lb],[]):=by
 have hT:∀ (env:Env) (fr:Fr),evT g C env fr (.alloc T)=match zeroT g.P T with|some zs=>some (.lp fr.length 0,fr++[.box false T zs],[])|none=>none:=fun env fr=>rfl
 rw [hT] at h
 cases hz:zeroT g.P T with
 | none=>rw [hz] at h;cases h
 | some zs=>
  rw [hz] at h
  cases h
  exact ⟨.box false T zs,rfl,rfl,rfl,fun env2 fr2=>by rw [hT,hz]⟩
theorem store_any {P:Program} {t i j:Nat} {v x:SV} {fr fr':Fr} {ks:List Nat} (h:storeE P fr t (.lp i j) v=some (x,fr',ks)):∃ lb lb',fr[i]?=some lb∧fr'=fr.set i lb'∧x=.dead∧ks=[]∧∀ (fr2:Fr) (i2:Nat),fr2[i2]?=some lb→storeE P fr2 t (.lp i2 j) v=some (.dead,fr2.set i2 lb',[]):=by
 unfold storeE at h
 split at h
 ·cases h
 ·rename_i e n hn
  split at h
  ·cases h
  ·rename_i hall
   simp only at h
   split at h
   ·rename_i T cs hb
    split at h
    ·rename_i hle
     cases h
     refine ⟨_,_,hb,rfl,rfl,rfl,fun fr2 i2 h2=>?_⟩
     unfold storeE
     simp only [hn,hall,h2,hle]
    ·cases h
   ·cases h
theorem drop_get' {α:Type} {l:List α} {k:Nat} {x:α} (h:l[k]?=some x):l.drop k=x::l.drop (k+1):=by
 obtain ⟨hlt,he⟩:=List.getElem?_eq_some_iff.1 h
 rw [List.drop_eq_getElem_cons hlt,he]
def posN:List Nat→Nat→Nat
 | [],_=>0
 | x::l,k=>if x=k then 0 else posN l k+1
theorem posN_get {k:Nat}:∀ {l:List Nat},k∈l→l[posN l k]?=some k
 | x::l,h=>by
  unfold posN
  split
  ·rename_i e;rw [e];rfl
  ·rename_i e
   rw [List.getElem?_cons_succ]
   exact posN_get ((List.mem_cons.1 h).resolve_left (Ne.symm e))
theorem hasN_range {N n i:Nat}:hasN ((List.range n).map (N+·)) i=true↔N≤i∧i < N+n:=by
 rw [hasN_iff,List.mem_map]
 constructor
 ·rintro ⟨k,hk,rfl⟩
  have:=List.mem_range.1 hk
  omega
 ·rintro ⟨h1,h2⟩
  exact ⟨i - N,List.mem_range.2 (by omega),by omega⟩
def dOf (ops:Array Oper) (i:Nat):Nat:=match ops[i]? with
 | some o=>match o.dst with
  | some d=>d
  | none=>0
 | none=>0
structure PrOk (ops:Array Oper) (N m:Nat):Prop extends DrawB ops where
 size:ops.size=N+(m+m)
 pr:∀ k,k < m→∃ (oa os:Oper) (T S:Nat) (x:Operand),ops[N+k]?=some oa∧ops[N+m+k]?=some os∧oa.dst=some (dOf ops (N+k))∧oa.op=.alloc T∧oa.guard=none∧os.dst=none∧os.op=.store S (.tmp (dOf ops (N+k))) x∧os.guard=none∧hasEdge os (N+k)=true∧x≠.tmp (dOf ops (N+k))∧∀ (j:Nat) (o:Oper),ops[j]?=some o→j≠N+m+k→.tmp (dOf ops (N+k)) ∉ o.op.operands
theorem drawOkD_spec {ops:Array Oper} {effs:List Nat} (h:drawOkD ops effs=true):∃ N m,effs=(List.range (m+m)).map (N+·)∧(∃ r,effs=N::r)∧PrOk ops N m:=by
 unfold drawOkD at h
 split at h
 ·cases h
 ·rename_i N r
  simp only [Bool.and_eq_true] at h
  obtain ⟨⟨⟨⟨h1,h2⟩,h3⟩,h4⟩,h5⟩:=h
  generalize hm:(N::r).length / 2=m at *
  have h3:(N::r).length=m+m:=by simpa using h3
  refine ⟨N,m,by rw [h3] at h4;simpa using h4,⟨r,rfl⟩,{ drawB_spec h1 with size:=by rw [h3] at h2;simpa using h2,pr:=fun k hk=>?_ }⟩
  have h6:=List.all_eq_true.1 h5 k (List.mem_range.2 hk)
  unfold twoOk at h6
  split at h6
  ·rename_i oa os ha hs
   split at h6
   ·rename_i d T S d' x h7 h8 h9
    simp only [Bool.and_eq_true] at h6
    obtain ⟨⟨⟨⟨⟨⟨g1,g2⟩,g3⟩,g4⟩,g5⟩,g6⟩,g7⟩:=h6
    have hd:d'=d:=(Nat.eq_of_beq_eq_true g1).symm
    subst hd
    have hdo:dOf ops (N+k)=d':=by unfold dOf;rw [ha];simp only [h7]
    rw [hdo]
    refine ⟨oa,os,T,S,x,ha,hs,h7,h8,by simpa using g2,by simpa using g4,h9,by simpa using g3,g5,fun e=>?_,fun j o ho hj hmem=>?_⟩
    ·subst e;simp at g6
    ·have g8:=List.all_eq_true.1 g7 j (List.mem_range.2 (Array.getElem?_eq_some_iff.1 ho).1)
     rw [ho] at g8
     have e1:Nat.beq j (N+m+k)=false:=by rw [← Bool.not_eq_true,Nat.beq_eq];exact hj
     simp only [e1,Bool.false_or,Bool.not_eq_true'] at g8
     exact hasN_not.1 g8 (by
      unfold tmpsOf
      rw [List.mem_filterMap]
      exact ⟨.tmp d',Array.mem_toList_iff.2 hmem,rfl⟩)
   ·cases h6
  ·cases h6
section
variable {g:Cfg} {γ:Glob} {κ:Ctx} {C:CallF} {ops:Array Oper} {effs:List Nat} {n N m:Nat} {E:Nat→Env} {F:Nat→Fr}
def Al (g:Cfg) (C:CallF) (ops:Array Oper) (i:Nat) (lb:Lb):Prop:=∀ o,ops[i]?=some o→∀ (env:Env) (fr:Fr),evT g C env fr o.op=some (.lp fr.length 0,fr++[lb],[])
def St (g:Cfg) (C:CallF) (ops:Array Oper) (E:Nat→Env) (i:Nat) (lb0 lb1:Lb):Prop:=∀ (o:Oper) (S d:Nat) (x:Operand),ops[i]?=some o→o.op=.store S (.tmp d) x→∀ (env:Env) (fr:Fr) (j:Nat),rd env (.tmp d)=.lp j 0→rd env x=rd (E i) x→fr[j]?=some lb0→evT g C env fr o.op=some (.dead,fr.set j lb1,[])
theorem stepF_eff {i:Nat} {o:Oper} {e e':Env} {f f':Fr} (h:StepF g C effs ops i o e f e' f') (hi:hasN effs i=true) (hg:o.guard=none):∃ x,evT g C e f o.op=some (x,f',[])∧e'=updO e o.dst x:=by
 obtain ⟨_,h⟩:=h
 rw [hg] at h
 obtain ⟨x,h1,h2⟩:=h
 unfold step at h1
 simp only [hi] at h1
 exact ⟨x,h1,h2⟩
theorem PrOk.d_inj (H:PrOk ops N m) {j k:Nat} (hj:j < m) (hk:k < m) (h:dOf ops (N+j)=dOf ops (N+k)):j=k:=by
 obtain ⟨oa,_,_,_,_,a1,_,a2,_⟩:=H.pr j hj
 obtain ⟨ob,_,_,_,_,b1,_,b2,_⟩:=H.pr k hk
 by_cases e:N+k=N+j
 ·omega
 ·exact absurd (h ▸ a2) (H.dst (N+j) oa (N+k) ob _ a1 b1 e b2)
theorem tr_al (H:PrOk ops N m) (hE:StepsF g C ops effs E F) (hef:∀ i,hasN effs i=true↔N≤i∧i < N+(m+m)):∀ k,k≤m→∃ B:List Lb,B.length=k∧F (N+k)=F 0++B∧∀ (q:Nat) (lb:Lb),B[q]?=some lb→Al g C ops (N+q) lb∧E (N+q+1) (dOf ops (N+q))=.lp ((F 0).length+q) 0
 | 0,_=>⟨[],rfl,by
   have:=FF_const hE 0 (N+0) (Nat.zero_le _) (by rw [H.size];omega) fun i _ hi he=>by
    have:=(hef i).1 (hasN_iff.2 he)
    omega
   rw [this];simp,fun q lb h=>by simp at h⟩
 | k+1,hk=>by
  obtain ⟨B,h1,h2,h3⟩:=tr_al H hE hef k (by omega)
  obtain ⟨oa,_,T,_,_,a1,_,a2,a3,a4,_⟩:=H.pr k (by omega)
  obtain ⟨x,b1,b2⟩:=stepF_eff (hE (N+k) oa a1) ((hef (N+k)).2 ⟨by omega,by omega⟩) a4
  rw [a3] at b1
  obtain ⟨lb,rfl,c2,_,c4⟩:=alloc_any b1
  refine ⟨B++[lb],by simp [h1],by rw [show N+(k+1)=N+k+1 by omega,c2,h2,List.append_assoc],fun q lb' hq=>?_⟩
  rcases Nat.lt_or_ge q k with hlt|hge
  ·rw [List.getElem?_append_left (by omega)] at hq
   exact h3 q lb' hq
  ·have hq2:=lt_of_get hq
   obtain rfl:q=k:=by simp at hq2;omega
   rw [List.getElem?_append_right (by omega),h1,Nat.sub_self] at hq
   cases hq
   refine ⟨fun o ho env fr=>?_,?_⟩
   ·rw [a1] at ho;cases ho;rw [a3];exact c4 env fr
   ·rw [b2,a2,h2]
    show upd _ _ _ _=_
    rw [upd_same]
    simp [h1]
theorem tr_st (H:PrOk ops N m) (hE:StepsF g C ops effs E F) (hef:∀ i,hasN effs i=true↔N≤i∧i < N+(m+m)) {B0:List Lb} (hB:B0.length=m) (hF:F (N+m)=F 0++B0) (hD:∀ (q:Nat) (lb:Lb),B0[q]?=some lb→E (N+q+1) (dOf ops (N+q))=.lp ((F 0).length+q) 0) :
  ∀ k,k≤m→∃ B1:List Lb,B1.length=k∧F (N+m+k)=F 0++(B1++B0.drop k)∧∀ (q:Nat) (lb0 lb1:Lb),B0[q]?=some lb0→B1[q]?=some lb1→St g C ops E (N+m+q) lb0 lb1
 | 0,_=>⟨[],rfl,by rw [Nat.add_zero,hF];simp,fun q lb0 lb1 _ h=>by simp at h⟩
 | k+1,hk=>by
  obtain ⟨B1,h1,h2,h3⟩:=tr_st H hE hef hB hF hD k (by omega)
  obtain ⟨oa,os,T,S,x,a1,s1,a2,a3,a4,s2,s3,s4,s5,s6,s7⟩:=H.pr k (by omega)
  obtain ⟨y,b1,b2⟩:=stepF_eff (hE (N+m+k) os s1) ((hef (N+m+k)).2 ⟨by omega,by omega⟩) s4
  obtain ⟨lb0,hlb0⟩:=get_of_lt (xs:=B0) (k:=k) (by omega)
  have hrd:rd (E (N+m+k)) (.tmp (dOf ops (N+k)))=.lp ((F 0).length+k) 0:=by
   have e1:E (N+m+k) (dOf ops (N+k))=.lp ((F 0).length+k) 0:=by
    rw [EF_mono hE (dOf ops (N+k)) (N+k+1) (N+m+k) (by omega) (by rw [H.size];omega) fun j o hj _ ho hd=>H.dst j o (N+k) oa _ ho a1 (by omega) a2 hd]
    exact hD k lb0 hlb0
   show un (E (N+m+k) (dOf ops (N+k)))=_
   rw [e1];rfl
  rw [s3] at b1
  have b1:storeE g.P (F (N+m+k)) S (rd (E (N+m+k)) (.tmp (dOf ops (N+k)))) (rd (E (N+m+k)) x)=some (y,F (N+m+k+1),[]):=b1
  rw [hrd] at b1
  obtain ⟨lb,lb1,c1,c2,rfl,_,c3⟩:=store_any b1
  have hge:(F (N+m+k))[(F 0).length+k]?=B0[k]?:=by
   rw [h2,List.getElem?_append_right (by omega),List.getElem?_append_right (by omega),List.getElem?_drop]
   congr 1;omega
  rw [hge,hlb0] at c1
  cases c1
  refine ⟨B1++[lb1],by simp [h1],?_,fun q l0 l1 hq0 hq1=>?_⟩
  ·rw [show N+m+(k+1)=N+m+k+1 by omega,c2,h2]
   have hd:B0.drop k=lb0::B0.drop (k+1):=drop_get' hlb0
   rw [hd,List.set_append_right _ _ (by omega),List.set_append_right _ _ (by omega),List.append_assoc]
   congr 2
   rw [show (F 0).length+k - (F 0).length - B1.length=0 by omega]
   rfl
  ·rcases Nat.lt_or_ge q k with hlt|hge2
   ·rw [List.getElem?_append_left (by omega)] at hq1
    exact h3 q l0 l1 hq0 hq1
   ·have hq2:=lt_of_get hq1
    obtain rfl:q=k:=by simp at hq2;omega
    rw [List.getElem?_append_right (by omega),h1,Nat.sub_self] at hq1
    cases hq1
    rw [hlb0] at hq0
    cases hq0
    intro o S' d' x' ho hop env fr j r1 r2 r3
    rw [s1] at ho
    cases ho
    rw [s3] at hop
    cases hop
    rw [s3]
    show storeE g.P fr S (rd env (.tmp (dOf ops (N+q)))) (rd env x)=_
    rw [r1,r2]
    exact c3 fr j r3
def gB (B:List Lb) (k:Nat):Lb:=(B[k]?).getD (.box true 0 [])
def bxL (N m:Nat) (B0 B1:List Lb) (listed:Array Bool) (k:Nat):Lb:=match listed.getD (N+m+k) true with
 | true=>gB B1 k
 | false=>gB B0 k
def Gf (fr0:Fr) (N m:Nat) (B0 B1:List Lb) (listed:Array Bool) (pend:List Nat):Fr:=fr0++pend.map (bxL N m B0 B1 listed)
structure MidD (γ:Glob) (κ:Ctx) (ops:Array Oper) (N m n:Nat) (E:Nat→Env) (fr0:Fr) (B0 B1:List Lb) (pend:List Nat) (L:Ls) (listed:Array Bool) (a:Act) (w:World):Prop where
 hd:Marks κ w a.defers
 hn:a.tmps.size=n
 hs:listed.size=ops.size
 nd:pend.Nodup
 mem:∀ k,k∈pend↔k < m∧listed.getD (N+k) true=true
 core:Core γ κ (Gf fr0 N m B0 B1 listed pend) L w
 ptr:∀ p k,pend[p]?=some k→SR (MA κ.M (Gf fr0 N m B0 B1 listed pend) L) L w (.lp (fr0.length+p) 0) (a.tmps.getD (dOf ops (N+k)) undef)
 done:∀ (i:Nat) (o:Oper) (t:Nat),i < N→ops[i]?=some o→o.dst=some t→listed.getD i true=true→SR (MA κ.M (Gf fr0 N m B0 B1 listed pend) L) L w (E (i+1) t) (a.tmps.getD t undef)
 rest:∀ (t:Nat),(∀ k,k < m→t≠dOf ops (N+k))→(∀ (i:Nat) (o:Oper),i < N→ops[i]?=some o→o.dst=some t→listed.getD i true=false)→SR (MA κ.M (Gf fr0 N m B0 B1 listed pend) L) L w (E 0 t) (a.tmps.getD t undef)
 clos:∀ (k:Nat) (o:Oper),ops[k]?=some o→listed.getD k true=true→∀ e∈o.after,Region.binds .any e=true→listed.getD e.on false=true
variable {fr0:Fr} {B0 B1:List Lb} {pend:List Nat} {L:Ls} {listed:Array Bool} {a:Act} {w:World}
theorem MidD.start (H:PrOk ops N m) (hd:Marks κ w a.defers) (hn:a.tmps.size=n) (hC:Core γ κ fr0 L w) (hV:∀ t,SR (MA κ.M fr0 L) L w (E 0 t) (a.tmps.getD t undef)):MidD γ κ ops N m n E fr0 B0 B1 [] L (Array.replicate ops.size false) a w where
 hd:=hd
 hn:=hn
 hs:=by simp
 nd:=List.nodup_nil
 mem:=fun k=>by
  constructor
  ·intro h;cases h
  ·rintro ⟨hk,h⟩
   rw [Array.getD_eq_getD_getElem?,Array.getElem?_replicate,if_pos (by rw [H.size];omega)] at h
   cases h
 core:=by unfold Gf;simpa using hC
 ptr:=fun p k h=>by simp at h
 done:=fun k o t _ ho _ hl=>by
  have hk:=(Array.getElem?_eq_some_iff.1 ho).1
  rw [Array.getD_eq_getD_getElem?,Array.getElem?_replicate,if_pos hk] at hl
  cases hl
 rest:=fun t _ _=>by unfold Gf;simpa using hV t
 clos:=fun k o ho hl=>by
  have hk:=(Array.getElem?_eq_some_iff.1 ho).1
  rw [Array.getD_eq_getD_getElem?,Array.getElem?_replicate,if_pos hk] at hl
  cases hl
theorem MidD.anc (h:MidD γ κ ops N m n E fr0 B0 B1 pend L listed a w) {i k:Nat} (ha:Anc ops i k):(∀ (o:Oper),ops[i]?=some o→∀ e∈o.after,Region.binds .any e=true→listed.getD e.on false=true)→listed.getD k true=true:=by
 induction ha with
 | one i o e ho he hb=>intro hi;exact getD_false (hi o ho e he hb)
 | more i k o e ho he hb ha ih=>
  intro hi
  have h1:=getD_false (hi o ho e he hb)
  exact ih fun o' ho'=>h.clos e.on o' ho' h1
theorem writer (H:PrOk ops N m) {t:Nat} (ht:∀ k,k < m→t≠dOf ops (N+k)) {i:Nat} {o:Oper} (ho:ops[i]?=some o) (hd:o.dst=some t):i < N:=by
 rcases Nat.lt_or_ge i N with h|h
 ·exact h
 ·have hi:=(Array.getElem?_eq_some_iff.1 ho).1
  rw [H.size] at hi
  rcases Nat.lt_or_ge i (N+m) with h1|h1
  ·obtain ⟨oa,_,_,_,_,a1,_,a2,_⟩:=H.pr (i - N) (by omega)
   rw [show N+(i - N)=i by omega,ho] at a1
   cases a1
   rw [show N+(i - N)=i by omega] at a2
   rw [hd] at a2
   cases a2
   exact absurd (show dOf ops i=dOf ops (N+(i - N)) by rw [show N+(i - N)=i by omega]) (ht (i - N) (by omega))
  ·obtain ⟨_,os,_,_,_,_,s1,_,_,_,s2,_⟩:=H.pr (i - N - m) (by omega)
   rw [show N+m+(i - N - m)=i by omega,ho] at s1
   cases s1
   rw [hd] at s2
   cases s2
theorem MidD.slot (H:PrOk ops N m) (hE:StepsF g C ops effs E F) (h:MidD γ κ ops N m n E fr0 B0 B1 pend L listed a w) {i t:Nat} (ht:∀ k,k < m→t≠dOf ops (N+k)) (hi:i≤ops.size)
  (h1:∀ (k:Nat) (ok:Oper),ops[k]?=some ok→ok.dst=some t→listed.getD k true=true→k < i) (h2:∀ (k:Nat) (ok:Oper),ops[k]?=some ok→ok.dst=some t→listed.getD k true=false→i≤k):SR (MA κ.M (Gf fr0 N m B0 B1 listed pend) L) L w (E i t) (a.tmps.getD t undef):=by
 by_cases hex:∃ (k:Nat) (ok:Oper),ops[k]?=some ok∧ok.dst=some t∧listed.getD k true=true
 ·obtain ⟨k,ok,hk,hd,hl⟩:=hex
  have hki:=h1 k ok hk hd hl
  rw [EF_mono hE t (k+1) i (by omega) hi fun q om hm1 hm2 hm3=>H.dst q om k ok t hm3 hk (by omega) hd]
  exact h.done k ok t (writer H ht hk hd) hk hd hl
 ·have hno:∀ (k:Nat) (o:Oper),ops[k]?=some o→o.dst=some t→listed.getD k true=false:=fun k o hk hd=>by
   rw [← Bool.not_eq_true];exact fun hl=>hex ⟨k,o,hk,hd,hl⟩
  rw [EF_mono hE t 0 i (Nat.zero_le _) hi fun k o _ hki hk hd=>by have:=h2 k o hk hd (hno k o hk hd);omega]
  exact h.rest t ht fun i o _ hk hd=>hno i o hk hd
theorem Gf_len:(Gf fr0 N m B0 B1 listed pend).length=fr0.length+pend.length:=by unfold Gf;simp
theorem Gf_lo {i:Nat} (hi:i < fr0.length):(Gf fr0 N m B0 B1 listed pend)[i]?=fr0[i]?:=by unfold Gf;rw [List.getElem?_append_left hi]
theorem Gf_hi {p:Nat}:(Gf fr0 N m B0 B1 listed pend)[fr0.length+p]?=(pend[p]?).map (bxL N m B0 B1 listed):=by
 unfold Gf
 rw [List.getElem?_append_right (by omega),show fr0.length+p - fr0.length=p by omega,List.getElem?_map]
theorem MidD.fin (H:PrOk ops N m) (hE:StepsF g C ops effs E F) (h:MidD γ κ ops N m n E fr0 B0 B1 pend L listed a w) (hall:∀ k,k < ops.size→listed.getD k true=true) (hB1:B1.length=m) (hF:F ops.size=fr0++B1) (hD:∀ q,q < m→E ops.size (dOf ops (N+q))=.lp (fr0.length+q) 0)
  (hbt:∀ b∈B1,boxTr b=true) (hds:∀ (i:Nat) (o:Oper) (t:Nat),i < N→ops[i]?=some o→o.dst=some t→∀ r∈(E ops.size t).refs,r < fr0.length) (h0:∀ t,∀ r∈(E 0 t).refs,r < fr0.length) (hfr:∀ b∈fr0,∀ r∈b.refs,r < fr0.length) (hκ:∀ j v,κ.L j=some v→j < fr0.length) :
  ∃ L',Core γ κ (F ops.size) L' w∧∀ t,SR (MA κ.M (F ops.size) L') L' w (E ops.size t) (a.tmps.getD t undef):=by
 have hpm:∀ k,k∈pend↔k < m:=fun k=>by
  rw [h.mem k]
  exact ⟨fun q=>q.1,fun q=>⟨q,hall _ (by rw [H.size];omega)⟩⟩
 have hbx:∀ k,k < m→∃ b,B1[k]?=some b∧bxL N m B0 B1 listed k=b:=fun k hk=>by
  obtain ⟨b,hb⟩:=get_of_lt (xs:=B1) (k:=k) (by omega)
  refine ⟨b,hb,?_⟩
  unfold bxL
  rw [hall _ (by rw [H.size];omega)]
  show gB B1 k=b
  unfold gB
  rw [hb];rfl
 have hix:∀ k,k < m→pend[posN pend k]?=some k:=fun k hk=>posN_get ((hpm k).2 hk)
 have hix2:∀ p k,pend[p]?=some k→posN pend k=p:=fun p k hp=>nodup_idx h.nd (hix k ((hpm k).1 (List.mem_of_getElem? hp))) hp
 have hlen:(fr0++B1).length=fr0.length+m:=by simp [hB1]
 let σ:Nat→Option Nat:=fun i=>if i < fr0.length then some i else (pend[i - fr0.length]?).map (fr0.length+·)
 let π:Nat→Nat:=fun j=>if j < fr0.length then j else fr0.length+posN pend (j - fr0.length)
 have σlo:∀ i,i < fr0.length→σ i=some i:=fun i hi=>if_pos hi
 have σhi:∀ p k,pend[p]?=some k→σ (fr0.length+p)=some (fr0.length+k):=fun p k hp=>by
  show (if _ then _ else _)=_
  rw [if_neg (by omega),show fr0.length+p - fr0.length=p by omega,hp];rfl
 have πlo:∀ i,i < fr0.length→π i=i:=fun i hi=>if_pos hi
 have πhi:∀ k,π (fr0.length+k)=fr0.length+posN pend k:=fun k=>by
  show (if _ then _ else _)=_
  rw [if_neg (by omega),show fr0.length+k - fr0.length=k by omega]
 have split:∀ j,j < (fr0++B1).length→j < fr0.length∨∃ k,k < m∧j=fr0.length+k:=fun j hj=>by
  rw [hlen] at hj
  rcases Nat.lt_or_ge j fr0.length with h1|h1
  ·exact .inl h1
  ·exact .inr ⟨j - fr0.length,by omega,by omega⟩
 obtain ⟨r1,r2,r3⟩:=h.core.refr (fr0++B1) π σ (fun j k hj hk e=>by
   rcases split j hj with h1|⟨p,hp,rfl⟩ <;> rcases split k hk with h2|⟨q,hq,rfl⟩
   ·rw [πlo j h1,πlo k h2] at e;exact e
   ·rw [πlo j h1,πhi q] at e;omega
   ·rw [πlo k h2,πhi p] at e;omega
   ·rw [πhi p,πhi q] at e
    have e1:=hix p hp
    have e2:=hix q hq
    rw [show posN pend p=posN pend q by omega,e2] at e1
    cases e1;rfl) (fun i j v hi hv=>by
   have hil:=h.core.lim i v hv
   rw [Gf_len] at hil
   rcases Nat.lt_or_ge i fr0.length with h1|h1
   ·rw [σlo i h1] at hi;cases hi
    exact ⟨by rw [hlen];omega,πlo i h1⟩
   ·obtain ⟨p,rfl⟩:∃ p,i=fr0.length+p:=⟨i - fr0.length,by omega⟩
    obtain ⟨k,hk⟩:=get_of_lt (xs:=pend) (k:=p) (by omega)
    rw [σhi p k hk] at hi;cases hi
    have hkm:=(hpm k).1 (List.mem_of_getElem? hk)
    exact ⟨by rw [hlen];omega,by rw [πhi,hix2 p k hk]⟩) (fun j lb' hj=>by
   rcases split j (lt_of_get hj) with h1|⟨k,hk,rfl⟩
   ·rw [List.getElem?_append_left h1] at hj
    rw [πlo j h1]
    exact ⟨lb',by rw [Gf_lo h1];exact hj,blkTo_fix lb' fun i hi=>σlo i (hfr lb' (List.mem_of_getElem? hj) i hi)⟩
   ·rw [List.getElem?_append_right (by omega),show fr0.length+k - fr0.length=k by omega] at hj
    obtain ⟨b,hb1,hb2⟩:=hbx k hk
    rw [hb1] at hj
    cases hj
    rw [πhi]
    refine ⟨lb',by rw [Gf_hi,hix k hk,Option.map_some,hb2],blkTo_fix lb' fun i hi=>?_⟩
    have hbtr:=hbt lb' (List.mem_of_getElem? hb1)
    cases lb' with
    | box ro T cs=>
     have hi:i∈SV.refsL cs:=hi
     obtain ⟨q,c,hq,hc⟩:=refsL_mem hi
     have h5:=List.all_eq_true.1 hbtr c (List.mem_of_getElem? hq)
     cases c <;> first|(cases h5;done)|(rw [SV.refs] at hc;cases hc)
    | row=>cases hi
    | own=>cases hi
    | map=>cases hbtr) (fun j v hj=>by
   have hjl:=hκ j v hj
   obtain ⟨lb,e1,_⟩:=h.core.hand j v hj
   rw [Gf_lo hjl] at e1
   exact ⟨lb,lb,by rw [Gf_lo hjl];exact e1,by rw [List.getElem?_append_left hjl];exact e1,πlo j hjl,id⟩)
 rw [hF]
 refine ⟨_,r1,fun t=>?_⟩
 have conv:∀ {x:SV} {v:Value},SR (MA κ.M (Gf fr0 N m B0 B1 listed pend) L) L w x v→SR (MA κ.M (fr0++B1) (Lof (fr0++B1).length L π)) (Lof (fr0++B1).length L π) w (x.sub σ) v:=fun hx=>SR.sub σ (Nat.le_refl _) (fun b _ hb=>⟨r2 b hb,rfl⟩) r3 hx
 by_cases hdt:∃ k,k < m∧t=dOf ops (N+k)
 ·obtain ⟨k,hk,rfl⟩:=hdt
  have e1:=conv (h.ptr _ k (hix k hk))
  rw [hD k hk]
  rw [SV.sub,σhi _ k (hix k hk)] at e1
  exact e1
 ·have ht:∀ k,k < m→t≠dOf ops (N+k):=fun k hk e=>hdt ⟨k,hk,e⟩
  have e1:=h.slot H hE (i:=ops.size) ht (Nat.le_refl _) (fun k ok hk _ _=>(Array.getElem?_eq_some_iff.1 hk).1) (fun k ok hk _ hl=>by
   have:=hall k (Array.getElem?_eq_some_iff.1 hk).1
   rw [hl] at this;cases this)
  have e2:=conv e1
  rw [SV.sub_fix _ fun i hi=>σlo i ?_] at e2
  ·exact e2
  ·by_cases hw:∃ (i:Nat) (o:Oper),i < N∧ops[i]?=some o∧o.dst=some t
   ·obtain ⟨q,o,h1,h2,h3⟩:=hw
    exact hds q o t h1 h2 h3 i hi
   ·rw [EF_mono hE t 0 ops.size (Nat.zero_le _) (Nat.le_refl _) fun k o _ _ hk hd=>hw ⟨k,o,writer H ht hk hd,hk,hd⟩] at hi
    exact h0 t i hi
theorem Gf_congr {listed':Array Bool} (h:∀ k∈pend,listed'.getD (N+m+k) true=listed.getD (N+m+k) true):Gf fr0 N m B0 B1 listed' pend=Gf fr0 N m B0 B1 listed pend:=by
 unfold Gf
 congr 1
 refine List.map_congr_left fun k hk=>?_
 unfold bxL
 rw [h k hk]
theorem Gf_set {listed':Array Bool} {p k:Nat} {b:Lb} (hn:pend.Nodup) (hp:pend[p]?=some k) (hb:bxL N m B0 B1 listed' k=b) (h:∀ q∈pend,q≠k→listed'.getD (N+m+q) true=listed.getD (N+m+q) true):Gf fr0 N m B0 B1 listed' pend=(Gf fr0 N m B0 B1 listed pend).set (fr0.length+p) b:=by
 have hpl:=lt_of_get hp
 refine List.ext_getElem? fun j=>?_
 rcases Nat.lt_or_ge j fr0.length with h1|h1
 ·rw [List.getElem?_set_ne (by omega),Gf_lo h1,Gf_lo h1]
 ·obtain ⟨q,rfl⟩:∃ q,j=fr0.length+q:=⟨j - fr0.length,by omega⟩
  by_cases e:q=p
  ·subst e
   rw [List.getElem?_set_self (by rw [Gf_len];omega),Gf_hi,hp,Option.map_some,hb]
  ·rw [List.getElem?_set_ne (by omega),Gf_hi,Gf_hi]
   cases hq:pend[q]? with
   | none=>rfl
   | some k'=>
    have hne:k'≠k:=fun e2=>by subst e2;exact e (nodup_idx hn hq hp)
    simp only [Option.map_some]
    unfold bxL
    rw [h k' (List.mem_of_getElem? hq) hne]
theorem wpAny_midD {rd':Option Nat} {dn:Nat} (hS:CallSnd g.P γ C) (H:PrOk ops N m) (hef:∀ i,hasN effs i=true↔N≤i∧i < N+(m+m)) (hdst:dstOk n ops.toList=true) (hE:StepsF g C ops effs E F) (hF0:∀ i,i≤N→F i=fr0)
  (hB0:B0.length=m) (hAl:∀ (q:Nat) (lb:Lb),B0[q]?=some lb→Al g C ops (N+q) lb) (hB1:B1.length=m) (hSt:∀ (q:Nat) (lb0 lb1:Lb),B0[q]?=some lb0→B1[q]?=some lb1→St g C ops E (N+m+q) lb0 lb1) {Q:Exit→Act→World→Prop}
  (hK:∀ pend L listed a w,(∀ k,k < ops.size→listed.getD k true=true)→MidD γ κ ops N m n E fr0 B0 B1 pend L listed a w→Q .normal a w) :
  ∀ (fuel:Nat) (pend:List Nat) (L:Ls) (listed:Array Bool) (a:Act) (w:World),un' listed ops.size≤fuel→MidD γ κ ops N m n E fr0 B0 B1 pend L listed a w→wpAnyIn (Fw rd') dn g.P .any ops Q fuel listed a w:=by
 have hdst':∀ (i:Nat) (o:Oper),ops[i]?=some o→∀ d,o.dst=some d→d < n:=fun i o ho d hd=>dst_lt hdst (Array.mem_toList_iff.2 (Array.mem_of_getElem? ho)) hd
 intro fuel
 induction fuel with
 | zero=>
  intro pend L listed a w hu h
  have hall:=un_zero (listed:=listed) ops.size (by omega)
  refine ⟨?_,hK pend L listed a w hall h⟩
  cases hr:Region.ready .any ops listed with
  | nil=>rfl
  | cons i l=>
   have hm:i∈Region.ready .any ops listed:=by rw [hr];simp
   obtain ⟨hl,o,ho,_⟩:=mem_ready.1 hm
   have:=hall i (Array.getElem?_eq_some_iff.1 ho).1
   rw [hl] at this;cases this
 | succ fuel ih=>
  intro pend L listed a w hu h
  refine ⟨fun hr=>hK pend L listed a w (all_listedB H.toDrawB h.hs hr) h,fun i hi=>?_⟩
  obtain ⟨hl,o,ho,hedge⟩:=mem_ready.1 hi
  have hisz:=(Array.getElem?_eq_some_iff.1 ho).1
  have hst:=hE i o ho
  have hu':un' (listed.setIfInBounds i true) ops.size≤fuel:=by
   have:=un_set hl ops.size
   rw [if_pos hisz] at this
   omega
  have hready:∀ k,Anc ops i k→listed.getD k true=true:=fun k ha=>h.anc ha fun o' ho'=>by rw [ho] at ho';cases ho';exact hedge
  have edge:∀ k,hasEdge o k=true→listed.getD k true=true∧k < i:=fun k hk=>by
   obtain ⟨e,he,hb,rfl⟩:=hasEdge_iff hk
   exact ⟨getD_false (hedge e he hb),H.back i o ho e he hb⟩
  have hslot:∀ t,(∀ k,k < m→t≠dOf ops (N+k))→(.tmp t∈o.op.operands∨∃ j oj,ops[j]?=some oj∧oj.dst=some t∧hasEdge o j=true)→SR (MA κ.M (Gf fr0 N m B0 B1 listed pend) L) L w (E i t) (a.tmps.getD t undef):=fun t htd ht=>by
   refine h.slot H hE htd (by omega) (fun k ok hk hd hlk=>?_) (fun k ok hk hd hlk=>?_)
   ·have hki:k≠i:=fun e=>by subst e;rw [hl] at hlk;cases hlk
    rcases ht with hy|⟨j,oj,hoj,hdj,hej⟩
    ·rcases H.use i o k ok t ho hk hki hd hy with h1|h1
     ·exact (edge k h1).2
     ·obtain ⟨e,he,hb,rfl⟩:=hasEdge_iff h1
      have:=getD_false (h.clos k ok hk hlk e he hb)
      rw [hl] at this;cases this
    ·by_cases hkj:k=j
     ·subst hkj;exact (edge k hej).2
     ·exact absurd hdj (H.dst k ok j oj t hk hoj (Ne.symm hkj) hdj |> fun q=>absurd hd q)
   ·rcases Nat.lt_or_ge k i with hlt|hge
    ·rcases ht with hy|⟨j,oj,hoj,hdj,hej⟩
     ·rcases H.use i o k ok t ho hk (by omega) hd hy with h1|h1
      ·have:=(edge k h1).1
       rw [hlk] at this;cases this
      ·obtain ⟨e,he,hb,rfl⟩:=hasEdge_iff h1
       have:=H.back k ok hk e he hb
       omega
     ·by_cases hkj:k=j
      ·subst hkj;have:=(edge k hej).1;rw [hlk] at this;cases this
      ·exact absurd hd (H.dst k ok j oj t hk hoj (Ne.symm hkj) hdj)
    ·exact hge
  have nset:∀ j,j≠i→(listed.setIfInBounds i true).getD j true=listed.getD j true:=fun j hj=>getD_set_ne true (Ne.symm hj)
  have iset:(listed.setIfInBounds i true).getD i true=true:=by rw [Array.getD_eq_getD_getElem?,Array.getElem?_setIfInBounds_self_of_lt (by rw [h.hs];exact hisz)];rfl
  have clos':∀ (k:Nat) (o:Oper),ops[k]?=some o→(listed.setIfInBounds i true).getD k true=true→∀ e∈o.after,Region.binds .any e=true→(listed.setIfInBounds i true).getD e.on false=true:=fun k ok hk hlk e he hb'=>by
   by_cases hki:k=i
   ·subst hki
    rw [ho] at hk;cases hk
    exact getD_set_true (hedge e he hb')
   ·rw [nset k hki] at hlk
    exact getD_set_true (h.clos k ok hk hlk e he hb')
  rcases Nat.lt_or_ge i N with hiN|hiN
  ·-- an operation ahead of the new variables
   have hie:hasN effs i=false:=by rw [← Bool.not_eq_true,hef];omega
   have hnd:∀ t,.tmp t∈o.op.operands→∀ k,k < m→t≠dOf ops (N+k):=fun t ht k hk e=>by
    obtain ⟨_,_,_,_,_,_,_,_,_,_,_,_,_,_,_,hx⟩:=H.pr k hk
    exact hx i o ho (by omega) (e ▸ ht)
   have hop:∀ y∈o.op.operands,SR (MA κ.M (Gf fr0 N m B0 B1 listed pend) L) L w (evE (E i) y) (a.eval y):=fun y hy=>by
    cases y with
    | const v=>exact cv_ok v
    | global g=>exact .dead _
    | func f=>exact .t _ _ (.fn _ [] #[] #[] rfl (fun j x u hx _=>by simp at hx))
    | tmp t=>exact hslot t (hnd t hy) (.inl hy)
   have hFi:F i=fr0:=hF0 i (by omega)
   have hFi1:F (i+1)=fr0:=hF0 (i+1) (by omega)
   have htrans:∀ {x},step g C (some effs) i (E i) (F i) o.op=some (x,F (i+1),[])→step g C (some effs) i (E i) (Gf fr0 N m B0 B1 listed pend) o.op=some (x,Gf fr0 N m B0 B1 listed pend,[]):=fun {x} hx=>by
    rw [hFi,hFi1] at hx
    cases hpd:pend with
    | nil=>unfold Gf;simpa using hx
    | cons k0 pr=>
     rw [← hpd]
     have hk0:k0∈pend:=by rw [hpd];simp
     obtain ⟨hk0m,hk0l⟩:=(h.mem k0).1 hk0
     obtain ⟨oa,_,_,_,_,a1,_⟩:=H.pr k0 hk0m
     have hb:((Region.before ops).getD (N+k0) 0).testBit i=false:=by
      rw [← Bool.not_eq_true]
      intro hb
      have:=h.anc (before_anc hb) fun o' ho'=>h.clos (N+k0) o' ho' hk0l
      rw [hl] at this;cases this
     have hf:=List.all_eq_true.1 (flt_all (hE (N+k0) oa a1).1) i (List.mem_range.2 (by omega))
     unfold fltPair at hf
     simp only [a1,ho,hie,(hef (N+k0)).2 ⟨by omega,by omega⟩,hb,Bool.false_or,Bool.and_eq_true] at hf
     obtain ⟨wl,rl,e1,e2,e3⟩:=disB_spec hf.2
     rw [rdB_env (evE_stab hE (by omega) (by rw [H.size];omega) hf.1)] at e2
     have hrl:=e2
     unfold step at hx ⊢
     simp only [hie] at hx ⊢
     cases hnc:isCall o.op with
     | true=>exact isCall_same hnc hrl hx
     | false=>
      unfold evD at hx ⊢
      simp only [hnc] at hx ⊢
      obtain ⟨hxe,_,_⟩:=withFr_ok hx
      have hlt:=rdB_lt hrl hxe
      rw [← rdB_same (fr:=fr0) hrl fun b hb=>(Gf_lo (hlt b hb)).symm,hxe]
      rfl
   have next:∀ (v:Value) (w':World) (L':Ls) (x:SV),Tr κ.M (Gf fr0 N m B0 B1 listed pend) L w (Gf fr0 N m B0 B1 listed pend) L' w' []→Core γ κ (Gf fr0 N m B0 B1 listed pend) L' w'→SR (MA κ.M (Gf fr0 N m B0 B1 listed pend) L') L' w' x v→E (i+1)=updO (E i) o.dst x→wpAnyIn (Fw rd') dn g.P .any ops Q fuel (listed.setIfInBounds i true) (a.put o.dst v) w':=fun v w' L' x hT hC' hv hEi=>by
    have hG:Gf fr0 N m B0 B1 (listed.setIfInBounds i true) pend=Gf fr0 N m B0 B1 listed pend:=Gf_congr fun k _=>nset _ (by omega)
    have hod:∀ k,k < m→o.dst≠some (dOf ops (N+k)):=fun k hk e=>by
     obtain ⟨oa,_,_,_,_,a1,_,a2,_⟩:=H.pr k hk
     exact H.dst i o (N+k) oa _ ho a1 (by omega) a2 e
    refine ih pend L' _ _ _ hu' ⟨?_,?_,?_,h.nd,fun k=>?_,by rw [hG];exact hC',fun p k hp=>?_,fun k ok t hkN hk hd hlk=>?_,fun t htd ht=>?_,clos'⟩
    ·rw [put_defers];exact h.hd.tr h.core hT
    ·rw [put_size,h.hn]
    ·rw [Array.size_setIfInBounds];exact h.hs
    ·rw [h.mem k]
     constructor
     ·rintro ⟨q1,q2⟩;exact ⟨q1,by rw [nset _ (by omega)];exact q2⟩
     ·rintro ⟨q1,q2⟩;exact ⟨q1,by rw [nset _ (by omega)] at q2;exact q2⟩
    ·rw [hG,put_off (hod k ((h.mem k).1 (List.mem_of_getElem? hp)).1)]
     exact hT.sr (h.ptr p k hp)
    ·rw [hG]
     by_cases hki:k=i
     ·subst hki
      rw [ho] at hk;cases hk
      rw [hEi,hd,put_at (by rw [h.hn];exact hdst' k o ho t hd)]
      show SR _ _ _ (upd _ t x t) v
      rw [upd_same]
      exact hv
     ·rw [put_off (H.dst i o k ok t ho hk hki hd)]
      rw [nset k hki] at hlk
      exact hT.sr (h.done k ok t hkN hk hd hlk)
    ·rw [hG]
     have hi':o.dst≠some t:=fun hd=>by
      have:=ht i o hiN ho hd
      rw [iset] at this
      cases this
     rw [put_off hi']
     refine hT.sr (h.rest t htd fun k ok hkN hk hd=>?_)
     have hki:k≠i:=fun e=>by subst e;rw [ho] at hk;cases hk;exact hi' hd
     have:=ht k ok hkN hk hd
     rw [nset k hki] at this
     exact this
   have h2:=hst.2
   unfold wpOpIn
   simp only [ho]
   cases hg:o.guard with
   | none=>
    rw [hg] at h2
    obtain ⟨x,hst',hEi⟩:=h2
    rw [if_pos (by simp [Region.wanted,hg])]
    exact (step_ok hS (htrans hst') κ L a w h.core hop).wpIn fun v w' ⟨L',hT,hC',hv⟩=>next v w' L' x hT hC' hv hEi
   | some gj=>
    obtain ⟨j,want⟩:=gj
    rw [hg] at h2
    have hej:=H.guard i o j want ho hg
    have hji:=(edge j hej).2
    have hwt:∀ W,gOf ops (E i) j want=some W→Region.wanted o (yielded ops a.tmps)=W:=fun W hW=>wanted_of (A:=MA κ.M (Gf fr0 N m B0 B1 listed pend) L) (L:=L) (w:=w) hg hW fun d hdd=>by
     cases hoj:ops[j]? with
     | none=>rw [hoj] at hdd;cases hdd
     | some oj=>
      rw [hoj] at hdd
      have hdj:oj.dst=some d:=hdd
      refine ⟨hslot d (fun k hk e=>?_) (.inr ⟨j,oj,hoj,hdj,hej⟩),by rw [h.hn];exact hdst' j oj hoj d hdj⟩
      obtain ⟨oa,_,_,_,_,a1,_,a2,_⟩:=H.pr k hk
      exact H.dst (N+k) oa j oj d a1 hoj (by omega) hdj (e ▸ a2)
    rcases h2 with ⟨hW,x,hst',hEi⟩|⟨hW,hFi2,hEi⟩
    ·rw [hwt _ hW,if_pos rfl]
     exact (step_ok hS (htrans hst') κ L a w h.core hop).wpIn fun v w' ⟨L',hT,hC',hv⟩=>next v w' L' (.yes x) hT hC' (.yes _ _ hv) hEi
    ·rw [hwt _ hW,if_neg (by simp)]
     exact ⟨fun _ _=>trivial,next undef w L .no Tr.refl h.core .no hEi⟩
  ·have hsz:=H.size
   rcases Nat.lt_or_ge i (N+m) with hiM|hiM
   ·-- a new variable
    obtain ⟨k,rfl⟩:∃ k,i=N+k:=⟨i - N,by omega⟩
    have hkm:k < m:=by omega
    obtain ⟨oa,os,T,S,x,a1,s1,a2,a3,a4,s2,s3,s4,s5,s6,s7⟩:=H.pr k hkm
    rw [ho] at a1
    cases a1
    obtain ⟨lb0,hlb0⟩:=get_of_lt (xs:=B0) (k:=k) (by omega)
    have hal:=hAl k lb0 hlb0 o ho (E (N+k)) (Gf fr0 N m B0 B1 listed pend)
    have hstep:step g C (some effs) (N+k) (E (N+k)) (Gf fr0 N m B0 B1 listed pend) o.op=some (.lp (Gf fr0 N m B0 B1 listed pend).length 0,Gf fr0 N m B0 B1 listed pend++[lb0],[]):=by
     unfold step
     simp only [(hef (N+k)).2 ⟨by omega,by omega⟩]
     exact hal
    have hun:listed.getD (N+m+k) true=false:=by
     rw [← Bool.not_eq_true]
     intro hls
     obtain ⟨e,he,hb,heo⟩:=hasEdge_iff s5
     have:=getD_false (h.clos (N+m+k) os s1 hls e he hb)
     rw [heo,hl] at this
     cases this
    have hkp:k ∉ pend:=fun hk=>by
     have:=((h.mem k).1 hk).2
     rw [hl] at this;cases this
    have hG:Gf fr0 N m B0 B1 (listed.setIfInBounds (N+k) true) (pend++[k])=Gf fr0 N m B0 B1 listed pend++[lb0]:=by
     unfold Gf
     rw [List.map_append,← List.append_assoc]
     congr 1
     ·congr 1
      refine List.map_congr_left fun q _=>?_
      unfold bxL
      rw [nset _ (by omega)]
     ·show [bxL N m B0 B1 _ k]=[lb0]
      unfold bxL
      rw [nset _ (by omega),hun]
      show [gB B0 k]=_
      unfold gB
      rw [hlb0];rfl
    unfold wpOpIn
    simp only [ho]
    rw [if_pos (by simp [Region.wanted,a4])]
    refine (step_ok hS hstep κ L a w h.core (fun y hy=>by rw [a3] at hy;simp [Op.operands] at hy)).wpIn fun v w' ⟨L',hT,hC',hv⟩=>?_
    rw [← hG] at hC' hv hT
    refine ih (pend++[k]) L' _ _ _ hu' ⟨?_,?_,?_,?_,fun q=>?_,hC',fun p q hp=>?_,fun j oj t hjN hj hd hlj=>?_,fun t htd ht=>?_,clos'⟩
    ·rw [put_defers];exact h.hd.tr h.core hT
    ·rw [put_size,h.hn]
    ·rw [Array.size_setIfInBounds];exact h.hs
    ·rw [List.nodup_append]
     refine ⟨h.nd,by simp,fun q hq r hr e=>?_⟩
     obtain rfl:r=k:=by simpa using hr
     exact hkp (e ▸ hq)
    ·rw [List.mem_append,h.mem q]
     constructor
     ·rintro (⟨q1,q2⟩|q1)
      ·refine ⟨q1,?_⟩
       by_cases e:q=k
       ·subst e;exact iset
       ·rw [nset _ (by omega)];exact q2
      ·obtain rfl:q=k:=by simpa using q1
       exact ⟨hkm,iset⟩
     ·rintro ⟨q1,q2⟩
      by_cases e:q=k
      ·exact .inr (by simp [e])
      ·rw [nset _ (by omega)] at q2
       exact .inl ⟨q1,q2⟩
    ·rcases Nat.lt_or_ge p pend.length with hpl|hpl
     ·rw [List.getElem?_append_left hpl] at hp
      have hqm:=List.mem_of_getElem? hp
      have hne:q≠k:=fun e=>hkp (e ▸ hqm)
      rw [put_off (a:=a) (by rw [a2];intro e;exact hne (H.d_inj ((h.mem q).1 hqm).1 hkm (Option.some.inj e).symm))]
      exact hT.sr (h.ptr p q hp)
     ·have hpl2:=lt_of_get hp
      rw [List.getElem?_append_right hpl] at hp
      obtain rfl:p=pend.length:=by simp at hpl2;omega
      rw [Nat.sub_self] at hp
      cases hp
      rw [a2,put_at (by rw [h.hn];exact hdst' _ o ho _ a2),show fr0.length+pend.length=(Gf fr0 N m B0 B1 listed pend).length from Gf_len.symm]
      exact hv
    ·have hne:o.dst≠some t:=fun e=>H.dst (N+k) o j oj t ho hj (by omega) hd e
     rw [put_off hne]
     rw [nset j (by omega)] at hlj
     exact hT.sr (h.done j oj t hjN hj hd hlj)
    ·have hne:o.dst≠some t:=fun e=>by rw [a2] at e;cases e;exact htd k hkm rfl
     rw [put_off hne]
     refine hT.sr (h.rest t htd fun j oj hjN hj hd=>?_)
     have:=ht j oj hjN hj hd
     rw [nset j (by omega)] at this
     exact this
   ·-- it is written
    obtain ⟨k,rfl⟩:∃ k,i=N+m+k:=⟨i - N - m,by omega⟩
    have hkm:k < m:=by omega
    obtain ⟨oa,os,T,S,x,a1,s1,a2,a3,a4,s2,s3,s4,s5,s6,s7⟩:=H.pr k hkm
    rw [ho] at s1
    cases s1
    obtain ⟨lb0,hlb0⟩:=get_of_lt (xs:=B0) (k:=k) (by omega)
    obtain ⟨lb1,hlb1⟩:=get_of_lt (xs:=B1) (k:=k) (by omega)
    have hkp:k∈pend:=(h.mem k).2 ⟨hkm,(edge _ s5).1⟩
    obtain ⟨p,hp⟩:=List.getElem?_of_mem hkp
    have hxe:∀ t,x=.tmp t→t≠dOf ops (N+k):=fun t e1 e2=>s6 (by rw [e1,e2])
    have hxo:∀ t,x=.tmp t→∀ q,q < m→t≠dOf ops (N+q):=fun t e1 q hq e2=>by
     by_cases hqk:q=k
     ·subst hqk;exact hxe t e1 e2
     ·obtain ⟨_,_,_,_,_,_,_,_,_,_,_,_,_,_,_,hx⟩:=H.pr q hq
      exact hx (N+m+k) o ho (by omega) (by rw [s3,← e2,e1];simp [Op.operands])
    have hEa1:rd (upd (E (N+m+k)) (dOf ops (N+k)) (.lp (fr0.length+p) 0)) (.tmp (dOf ops (N+k)))=.lp (fr0.length+p) 0:=by
     show un (upd _ _ _ _)=_
     rw [upd_same];rfl
    have hEa2:evE (upd (E (N+m+k)) (dOf ops (N+k)) (.lp (fr0.length+p) 0)) x=evE (E (N+m+k)) x:=by
     cases x with
     | tmp t=>show upd _ _ _ t=_;rw [upd_ne (hxe t rfl)];rfl
     | _=>rfl
    have hG0:(Gf fr0 N m B0 B1 listed pend)[fr0.length+p]?=some lb0:=by
     rw [Gf_hi,hp,Option.map_some]
     unfold bxL
     rw [hl]
     show some (gB B0 k)=_
     unfold gB
     rw [hlb0];rfl
    have hsto:=hSt k lb0 lb1 hlb0 hlb1 o S (dOf ops (N+k)) x ho s3 (upd (E (N+m+k)) (dOf ops (N+k)) (.lp (fr0.length+p) 0)) (Gf fr0 N m B0 B1 listed pend) (fr0.length+p) hEa1 (by unfold rd;rw [hEa2]) hG0
    have hstep:step g C (some effs) (N+m+k) (upd (E (N+m+k)) (dOf ops (N+k)) (.lp (fr0.length+p) 0)) (Gf fr0 N m B0 B1 listed pend) o.op=some (.dead,(Gf fr0 N m B0 B1 listed pend).set (fr0.length+p) lb1,[]):=by
     unfold step
     simp only [(hef (N+m+k)).2 ⟨by omega,by omega⟩]
     exact hsto
    have hG:Gf fr0 N m B0 B1 (listed.setIfInBounds (N+m+k) true) pend=(Gf fr0 N m B0 B1 listed pend).set (fr0.length+p) lb1:=Gf_set h.nd hp (by
     unfold bxL
     rw [iset]
     show gB B1 k=_
     unfold gB
     rw [hlb1];rfl) fun q _ hq=>nset _ (by omega)
    unfold wpOpIn
    simp only [ho]
    rw [if_pos (by simp [Region.wanted,s4])]
    refine (step_ok hS hstep κ L a w h.core (fun y hy=>?_)).wpIn fun v w' ⟨L',hT,hC',hv⟩=>?_
    ·rw [s3] at hy
     have hy:y=.tmp (dOf ops (N+k))∨y=x:=by simpa [Op.operands] using hy
     rcases hy with rfl|rfl
     ·show SR _ _ _ (upd _ _ _ _) _
      rw [upd_same]
      exact h.ptr p k hp
     ·rw [hEa2]
      cases y with
      | const v=>exact cv_ok v
      | global g=>exact .dead _
      | func f=>exact .t _ _ (.fn _ [] #[] #[] rfl (fun j x u hx _=>by simp at hx))
      | tmp t=>exact hslot t (hxo t rfl) (.inl (by rw [s3];simp [Op.operands]))
    ·rw [← hG] at hC' hv hT
     refine ih pend L' _ _ _ hu' ⟨?_,?_,?_,h.nd,fun q=>?_,hC',fun p' q hp'=>?_,fun j oj t hjN hj hd hlj=>?_,fun t htd ht=>?_,clos'⟩
     ·rw [put_defers];exact h.hd.tr h.core hT
     ·rw [put_size,h.hn]
     ·rw [Array.size_setIfInBounds];exact h.hs
     ·rw [h.mem q]
      constructor
      ·rintro ⟨q1,q2⟩;exact ⟨q1,by rw [nset _ (by omega)];exact q2⟩
      ·rintro ⟨q1,q2⟩;exact ⟨q1,by rw [nset _ (by omega)] at q2;exact q2⟩
     ·rw [put_off (by rw [s2];intro e;cases e)]
      exact hT.sr (h.ptr p' q hp')
     ·rw [put_off (by rw [s2];intro e;cases e)]
      rw [nset j (by omega)] at hlj
      exact hT.sr (h.done j oj t hjN hj hd hlj)
     ·rw [put_off (by rw [s2];intro e;cases e)]
      refine hT.sr (h.rest t htd fun j oj hjN hj hd=>?_)
      have:=ht j oj hjN hj hd
      rw [nset j (by omega)] at this
      exact this
theorem regD_ok {rd':Option Nat} {dn:Nat} (hS:CallSnd g.P γ C) (hok:drawOkD ops effs=true) (hdst:dstOk n ops.toList=true) {env env':Env} {fr fr':Fr} (he:evRegD g C effs ops env fr=some (env',fr')) {Q:Exit→Act→World→Prop}
  (hK:∀ L a w,Marks κ w a.defers→a.tmps.size=n→Core γ κ fr' L w→(∀ t,SR (MA κ.M fr' L) L w (env' t) (a.tmps.getD t undef))→Q .normal a w) (hd:Marks κ w a.defers) (hn:a.tmps.size=n) (hC:Core γ κ fr L w) (hV:∀ t,SR (MA κ.M fr L) L w (env t) (a.tmps.getD t undef)):wpAnyIn (Fw rd') dn g.P .any ops Q ops.size (Array.replicate ops.size false) a w:=by
 obtain ⟨N,m,hef1,⟨r,hef2⟩,H⟩:=drawOkD_spec hok
 have hef:∀ i,hasN effs i=true↔N≤i∧i < N+(m+m):=fun i=>by rw [hef1];exact hasN_range
 have hsz:=H.size
 unfold evRegD at he
 rw [hef2] at he
 simp only at he
 rw [← hef2] at he
 split at he
 ·cases he
 ·rename_i e1 r1 hop
  split at he
  ·rename_i hend
   cases he
   obtain ⟨E,F,a1,a2,a3,a4,a5⟩:=opsF_trace ops.toList 0 env fr hop
   have hE:StepsF g C ops effs E F:=fun i o ho=>by
    have:=a3 i o (by rw [Array.getElem?_toList];exact ho)
    rwa [Nat.zero_add] at this
   rw [Array.length_toList] at a4 a5
   have hF0:∀ i,i≤N→F i=fr:=fun i hi=>by
    rw [← a2]
    exact FF_const hE 0 i (Nat.zero_le _) (by omega) fun q _ hq hm=>by
     have:=(hef q).1 (hasN_iff.2 hm)
     omega
   obtain ⟨B0,b1,b2,b3⟩:=tr_al H hE hef m (Nat.le_refl _)
   rw [a2] at b2 b3
   obtain ⟨B1,c1,c2,c3⟩:=tr_st H hE hef b1 (by rw [a2];exact b2) (fun q lb hq=>by rw [a2];exact (b3 q lb hq).2) m (Nat.le_refl _)
   rw [List.drop_eq_nil_of_le (by omega),List.append_nil,a2,show N+m+m=ops.size by omega] at c2
   unfold endOk at hend
   rw [Bool.and_eq_true] at hend
   obtain ⟨h1,h2⟩:=hend
   have hD:∀ q,q < m→E ops.size (dOf ops (N+q))=.lp (fr.length+q) 0:=fun q hq=>by
    obtain ⟨lb,hlb⟩:=get_of_lt (xs:=B0) (k:=q) (by omega)
    obtain ⟨oa,_,_,_,_,g1,_,g2,_⟩:=H.pr q hq
    rw [EF_mono hE (dOf ops (N+q)) (N+q+1) ops.size (by omega) (Nat.le_refl _) fun j o hj _ ho hd=>H.dst j o (N+q) oa _ ho g1 (by omega) g2 hd]
    exact (b3 q lb hlb).2
   refine wpAny_midD (κ:=κ) (n:=n) hS H hef hdst hE hF0 b1 (fun q lb hq=>(b3 q lb hq).1) c1 c3 (fun pend L' listed a' w' hall hM=>?_) _ [] L _ a w ?_ (MidD.start H hd hn hC fun t=>by rw [a1];exact hV t)
   ·have q1:∀ b∈B1,boxTr b=true:=fun b hb=>List.all_eq_true.1 h1 b (by rw [← a5,c2];simpa using hb)
    have q2:∀ (i:Nat) (o:Oper) (t:Nat),i < N→ops[i]?=some o→o.dst=some t→∀ r∈(E ops.size t).refs,r < fr.length:=fun i o t hi ho hdt rr hr=>by
     have h3:=List.all_eq_true.1 h2 t (by
      unfold dsOf
      rw [List.mem_filterMap]
      exact ⟨o,List.mem_of_getElem? (i:=i) (by rw [List.getElem?_take,if_pos hi,Array.getElem?_toList];exact ho),hdt⟩)
     rw [← a4] at h3
     have h4:=List.all_eq_true.1 h3 rr hr
     simpa [Nat.blt_eq] using h4
    have q3:∀ t,∀ r∈(E 0 t).refs,r < fr.length:=fun t rr hr=>by
     rw [a1] at hr
     obtain ⟨u,hu⟩:=(hV t).reach rr hr
     exact hC.lim _ _ hu
    have q4:∀ b∈fr,∀ r∈b.refs,r < fr.length:=fun b hb=>by
     obtain ⟨k,hk⟩:=List.getElem?_of_mem hb
     exact hC.inside hk
    have q5:∀ j v,κ.L j=some v→j < fr.length:=fun j v hj=>by
     obtain ⟨lb,e1,_⟩:=hC.hand j v hj
     exact lt_of_get e1
    obtain ⟨L2,k1,k2⟩:=hM.fin H hE hall c1 c2 hD q1 q2 q3 q4 q5
    rw [a5] at k1 k2
    rw [a4] at k2
    exact hK L2 a' w' hM.hd hM.hn k1 k2
   ·unfold un'
    exact Nat.le_trans (List.countP_le_length) (by simp)
  ·cases he
end
end Go.Proofs.YtjdhnoffoknlnaaGreatDoor
namespace Go.Proofs.YtjdhnoffoknlnaaGreatDoor
open Go.RowKit
end Go.Proofs.YtjdhnoffoknlnaaGreatDoor
namespace Go.Proofs.YtjdhnoffoknlnaaGreatDoor
open Go.RowKit
section
variable {γ:Glob} {κ:Ctx} {fr:Fr} {L:Ls} {w:World}
theorem ro_free (hC:Core γ κ fr L w) {i:Nat} {v:Value} {lb:Lb} (hL:L i=some v) (hb:fr[i]?=some lb) (hro:lb.ro=true):∀ b,Bk v b→MA κ.M fr L b:=fun b hvb=>
 ⟨(hC.new i v b lb hL hvb hb).2.1,fun ⟨j,u,lb',h1,h2,h3,h4⟩=>by
  have:=hC.dis j i u v b h1 hL h2 hvb
  subst this
  rw [hb] at h3
  cases h3
  rw [hro] at h4
  cases h4⟩
mutual
theorem thaw_ok (hC:Core γ κ fr L w):∀ (s:SV) (v:Value),SR (MA κ.M fr L) L w s v→SR (MA κ.M fr L) L w (thaw fr s) v
 | .ls i,v,h=>by
  rw [thaw]
  split
  ·rename_i tch sz es hb
   obtain ⟨hL,_⟩:=inv_ls h
   exact .t _ _ (row_tree hC (fun _ h=>h) hb hL fun b hvb=>ro_free hC hL hb rfl b (.one hvb))
  ·exact h
 | .agg cs,v,h=>by
  rw [thaw]
  cases h with
  | agg _ us hl hr=>
   obtain ⟨t1,t2⟩:=thawL_ok hC cs us hr
   split
   ·rename_i xs hx
    obtain ⟨h1,h2⟩:=pursN_ok (A:=MA κ.M fr L) (L:=L) (w:=w) hx
    refine .t _ _ (.agg _ us (by rw [hl,← t1,h1]) fun j x u hxj hu=>?_)
    obtain ⟨s,hs⟩:=get_of_lt (xs:=thawL fr cs) (k:=j) (by rw [h1];exact lt_of_get hxj)
    exact h2 j s x u hs hxj (t2 j s u hs hu)
   ·exact .agg _ us (by rw [hl,t1]) t2
 | .tup cs,v,h=>by
  rw [thaw]
  cases h with
  | tup _ us hl hr=>
   obtain ⟨t1,t2⟩:=thawL_ok hC cs us hr
   exact .tup _ us (by rw [hl,t1]) t2
 | .fn f nf cs,v,h=>by
  rw [thaw]
  cases h with
  | fn _ _ fs us hl hr=>
   obtain ⟨t1,t2⟩:=thawL_ok hC cs (fs++us) hr
   exact fnS_ok (.fn _ _ fs us (by rw [hl,t1]) t2)
 | .yes s,v,h=>by
  rw [thaw]
  cases h with
  | yes _ _ h=>exact thaw_ok hC s v h
 | .t x,v,h=>by rw [thaw] <;> first|exact h|(intros;contradiction)
 | .nil,v,h=>by rw [thaw] <;> first|exact h|(intros;contradiction)
 | .tc es,v,h=>by rw [thaw] <;> first|exact h|(intros;contradiction)
 | .nn es,v,h=>by rw [thaw] <;> first|exact h|(intros;contradiction)
 | .lp i j,v,h=>by rw [thaw] <;> first|exact h|(intros;contradiction)
 | .lv i sz a n,v,h=>by rw [thaw] <;> first|exact h|(intros;contradiction)
 | .le i sz k j,v,h=>by rw [thaw] <;> first|exact h|(intros;contradiction)
 | .lo i p,v,h=>by rw [thaw] <;> first|exact h|(intros;contradiction)
 | .lr i p k,v,h=>by rw [thaw] <;> first|exact h|(intros;contradiction)
 | .lm i,v,h=>by rw [thaw] <;> first|exact h|(intros;contradiction)
 | .no,v,h=>by rw [thaw] <;> first|exact h|(intros;contradiction)
 | .dead,v,h=>by rw [thaw] <;> first|exact h|(intros;contradiction)
theorem thawL_ok (hC:Core γ κ fr L w):∀ (cs:List SV) (us:Array Value),(∀ (j:Nat) (x:SV) (u:Value),cs[j]?=some x→us[j]?=some u→SR (MA κ.M fr L) L w x u)→(thawL fr cs).length=cs.length∧∀ (j:Nat) (x:SV) (u:Value),(thawL fr cs)[j]?=some x→us[j]?=some u→SR (MA κ.M fr L) L w x u
 | [],us,_=>⟨by rw [thawL],fun j x u hx _=>by rw [thawL] at hx;simp at hx⟩
 | c::cs,us,hr=>by
  obtain ⟨t1,t2⟩:=thawL_ok hC cs (us.extract 1 us.size) fun j x u hx hu=>by
   rw [Array.getElem?_extract] at hu
   split at hu
   ·rw [Nat.add_comm] at hu;exact hr (j+1) x u (by simpa using hx) hu
   ·cases hu
  rw [thawL]
  refine ⟨by simp [t1],fun j x u hx hu=>?_⟩
  cases j with
  | zero=>cases hx;exact thaw_ok hC c u (hr 0 c u rfl hu)
  | succ j=>
   refine t2 j x u (by simpa using hx) ?_
   have hj:=(Array.getElem?_eq_some_iff.1 hu).1
   rw [Array.getElem?_extract,if_pos (by omega),Nat.add_comm]
   exact hu
end
theorem roAll_spec:∀ {l:List Nat},roAll fr l=true→∀ i∈l,∃ b,fr[i]?=some b∧b.ro=true
 | [],_,i,hi=>by cases hi
 | k::r,h,i,hi=>by
  unfold roAll at h
  split at h
  ·rename_i b hb
   rw [Bool.and_eq_true] at h
   rcases List.mem_cons.1 hi with rfl|hi
   ·exact ⟨b,hb,h.1⟩
   ·exact roAll_spec h.2 i hi
  ·cases h
theorem recell_ok (hC:Core γ κ fr L w) (m:Nat) {c:SV} {v:Value} (h:SR (MA κ.M fr L) L w c v):SR (MA κ.M fr L) L w (recell m fr c) v:=by
 unfold recell
 split
 ·exact h
 ·split
  ·rename_i x hx hro
   refine .t _ _ ((toAV_ok hC (A:=MA κ.M fr L) (fun _ h=>h) deep).1 c x v hx (fun i hi u b hu hb=>?_) h)
   obtain ⟨lb,h1,h2⟩:=roAll_spec hro i hi
   exact ro_free hC hu h1 h2 b hb
  ·exact h
theorem recellB_ro (m:Nat) (b:Lb):(recellB m fr b).ro=b.ro:=by cases b <;> rfl
theorem recellB_tch (m:Nat) (b:Lb):(recellB m fr b).tch=b.tch:=by cases b <;> rfl
theorem Core.recells (hC:Core γ κ fr L w) (m:Nat):Core γ κ (fr.map (recellB m fr)) L w∧∀ b,MA κ.M fr L b↔MA κ.M (fr.map (recellB m fr)) L b:=by
 have hget:∀ (i:Nat) (lb':Lb),(fr.map (recellB m fr))[i]?=some lb'→∃ lb,fr[i]?=some lb∧lb'=recellB m fr lb:=fun i lb' h=>by
  rw [List.getElem?_map] at h
  cases hf:fr[i]? with
  | none=>rw [hf] at h;cases h
  | some lb=>rw [hf] at h;cases h;exact ⟨lb,rfl,rfl⟩
 have hOwn:∀ b,Own fr L b↔Own (fr.map (recellB m fr)) L b:=fun b=>by
  constructor
  ·rintro ⟨i,v,lb,h1,h2,h3,h4⟩
   exact ⟨i,v,recellB m fr lb,h1,h2,by rw [List.getElem?_map,h3];rfl,by rw [recellB_ro];exact h4⟩
  ·rintro ⟨i,v,lb',h1,h2,h3,h4⟩
   obtain ⟨lb,h5,rfl⟩:=hget i lb' h3
   rw [recellB_ro] at h4
   exact ⟨i,v,lb,h1,h2,h5,h4⟩
 have hMA:∀ b,MA κ.M fr L b↔MA κ.M (fr.map (recellB m fr)) L b:=fun b=>by unfold MA;rw [hOwn b]
 have hSR:∀ {x:SV} {v:Value},SR (MA κ.M fr L) L w x v→SR (MA κ.M (fr.map (recellB m fr)) L) L w x v:=fun h=>SR.on (Nat.le_refl _) (fun b _ hb=>⟨(hMA b).1 hb,rfl⟩) (fun _ _ h=>h) h
 have hVR:∀ {x:AV} {v:Value},VR (MA κ.M fr L) w x v→VR (MA κ.M (fr.map (recellB m fr)) L) w x v:=fun h=>VR.on (Nat.le_refl _) (fun b _ hb=>⟨(hMA b).1 hb,rfl⟩) h
 refine ⟨⟨hC.glob,hC.gn,hC.gx,hC.fresh,hC.os,hC.tape,hC.output,hC.size,hC.kept,fun i v h=>by rw [List.length_map];exact hC.lim i v h,fun i v b lb' h1 h2 h3=>?_,hC.dis,fun j v h=>?_,fun i lb' h=>?_⟩,hMA⟩
 ·obtain ⟨lb,h5,rfl⟩:=hget i lb' h3
  rw [recellB_ro]
  exact hC.new i v b lb h1 h2 h5
 ·obtain ⟨lb,h1,h2⟩:=hC.hand j v h
  exact ⟨recellB m fr lb,by rw [List.getElem?_map,h1];rfl,fun ht=>h2 (by rw [recellB_tch] at ht;exact ht)⟩
 ·obtain ⟨lb,h5,rfl⟩:=hget i lb' h
  have hb:=hC.blk i lb h5
  cases lb with
  | box ro T cs=>
   obtain ⟨g,us,h1,h2,h3,h4⟩:=hb
   refine ⟨g,us,h1,h2,by rw [List.length_map];exact h3,fun j x u hx hu=>?_⟩
   rw [List.getElem?_map] at hx
   cases hc:cs[j]? with
   | none=>rw [hc] at hx;cases hx
   | some c=>rw [hc] at hx;cases hx;exact hSR (recell_ok hC m (h4 j c u hc hu))
  | row ro tch sz es=>
   obtain ⟨T,v,us,h1,h2,h3,h4,h5⟩:=hb
   exact ⟨T,v,us,h1,h2,h3,h4,fun k j cs x hk hj=>by
    obtain ⟨u,e1,e2⟩:=h5 k j cs x hk hj
    exact ⟨u,e1,hVR e2⟩⟩
  | map ro ks vs=>
   obtain ⟨r,ents,clock,h1,h2,h3,h4,h5,h6,h7⟩:=hb
   exact ⟨r,ents,clock,h1,h2,h3,h4,fun j x u hx hu=>hVR (h5 j x u hx hu),fun j x u hx hu=>hSR (h6 j x u hx hu),h7⟩
  | own ro x=>exact hb
theorem dedup_pre:∀ (l acc:List Nat),∃ r,dedup acc l=acc++r
 | [],acc=>⟨[],by unfold dedup;simp⟩
 | i::l,acc=>by
  unfold dedup
  split
  ·exact dedup_pre l acc
  ·obtain ⟨r,h⟩:=dedup_pre l (acc++[i])
   exact ⟨i::r,by rw [h];simp⟩
theorem dedup_mem:∀ (l acc:List Nat) (i:Nat),i∈acc∨i∈l→i∈dedup acc l
 | [],acc,i,h=>by unfold dedup;simpa using h
 | k::l,acc,i,h=>by
  unfold dedup
  split
  ·rename_i hk
   refine dedup_mem l acc i ?_
   rcases h with h|h
   ·exact .inl h
   ·rcases List.mem_cons.1 h with rfl|h
    ·exact .inl (hasN_iff.1 hk)
    ·exact .inr h
  ·refine dedup_mem l _ i ?_
   rcases h with h|h
   ·exact .inl (by simp [h])
   ·rcases List.mem_cons.1 h with rfl|h
    ·exact .inl (by simp)
    ·exact .inr h
theorem unTchN_get:∀ (m:Nat) (bs:Fr) (j:Nat),(unTchN m bs)[j]?=(bs[j]?).map fun b=>if j < m then b else unTch b
 | _,[],j=>by simp [unTchN]
 | 0,b::bs,0=>by simp [unTchN]
 | 0,b::bs,j+1=>by
  have:=unTchN_get 0 bs j
  simp [unTchN,this]
 | m+1,b::bs,0=>by simp [unTchN]
 | m+1,b::bs,j+1=>by
  have:=unTchN_get m bs j
  simp [unTchN,this]
theorem getAll_map {f:Lb→Lb}:∀ {l:List Nat} {bs:Fr},getAll fr l=some bs→getAll (fr.map f) l=some (bs.map f)
 | [],bs,h=>by unfold getAll at h;cases h;rfl
 | k::r,bs,h=>by
  unfold getAll at h
  split at h
  ·cases h
  ·rename_i b hb
   split at h
   ·cases h
   ·rename_i l hl
    cases h
    unfold getAll
    rw [List.getElem?_map,hb]
    simp only [Option.map_some,getAll_map hl,List.map_cons]
theorem close_pre (fr:Fr):∀ (n:Nat) (l:List Nat),∃ r,close fr n l=l++r
 | 0,l=>⟨[],by simp [close]⟩
 | n+1,l=>by
  unfold close
  obtain ⟨r,h1⟩:=dedup_pre (refsFr fr l) l
  obtain ⟨q,h2⟩:=close_pre fr n (dedup l (refsFr fr l))
  exact ⟨r++q,by rw [h2,h1,List.append_assoc]⟩
theorem pack_ok {F:Fr} (hC2:Core γ κ F L w) {m:Nat} (hm:∀ j v,κ.L j=some v→j < m) {r1:SV} {v:Value} {ids:List Nat} {B:Fr} (hnd:ids.Nodup) (hpre:∀ j,j < m→ids[j]?=some j) (hbs2:getAll F ids=some B) (hrF:SR (MA κ.M F L) L w r1 v) :
  ∃ L',Core γ κ (unTchN m (B.map (Lb.sub (idxσ ids)))) L' w∧SR (MA κ.M (unTchN m (B.map (Lb.sub (idxσ ids)))) L') L' w (r1.sub (idxσ ids)) v:=by
 obtain ⟨hbl,hbg⟩:=getAll_get hbs2
 have hget:∀ (j:Nat) (lb':Lb),(unTchN m (B.map (Lb.sub (idxσ ids))))[j]?=some lb'→∃ (i:Nat) (lb:Lb),ids[j]?=some i∧F[i]?=some lb∧lb'=if j < m then lb.sub (idxσ ids) else unTch (lb.sub (idxσ ids)):=fun j lb' hj=>by
  rw [unTchN_get,List.getElem?_map] at hj
  cases hb:B[j]? with
  | none=>rw [hb] at hj;cases hj
  | some lb=>
   rw [hb] at hj
   cases hj
   obtain ⟨i,hi⟩:=get_of_lt (xs:=ids) (k:=j) (by rw [← hbl];exact lt_of_get hb)
   obtain ⟨b,h1,h2⟩:=hbg j i hi
   rw [hb] at h2
   cases h2
   exact ⟨i,lb,hi,h1,rfl⟩
 have hlen:(unTchN m (B.map (Lb.sub (idxσ ids)))).length=ids.length:=by
  rw [← hbl]
  have:∀ (m:Nat) (bs:Fr),(unTchN m bs).length=bs.length:=fun m bs=>by
   induction bs generalizing m with
   | nil=>cases m <;> rfl
   | cons b bs ih=>cases m <;> simp [unTchN,ih]
  rw [this,List.length_map]
 obtain ⟨h1,h2,h3⟩:=hC2.refr (unTchN m (B.map (Lb.sub (idxσ ids)))) (fun j=>ids.getD j 0) (idxσ ids) (fun j k hj hk e=>by
   rw [hlen] at hj hk
   have ej:ids[j]?=some (ids.getD j 0):=by rw [List.getD_eq_getElem?_getD,List.getElem?_eq_getElem hj];rfl
   have ek:ids[k]?=some (ids.getD k 0):=by rw [List.getD_eq_getElem?_getD,List.getElem?_eq_getElem hk];rfl
   rw [e] at ej
   exact nodup_idx hnd ej ek) (fun i j v hi hv=>by
   have:=idxσ_some hi
   exact ⟨by rw [hlen];exact lt_of_get this,by rw [List.getD_eq_getElem?_getD,this];rfl⟩) (fun j lb' hj=>by
   obtain ⟨i,lb,e1,e2,rfl⟩:=hget j lb' hj
   refine ⟨lb,by rw [List.getD_eq_getElem?_getD,e1];exact e2,?_⟩
   split
   ·exact blkTo_sub _ _
   ·exact blkTo_unTch (blkTo_sub _ _)) (fun j v hj=>by
   have hjm:=hm j v hj
   have ej:ids[j]?=some j:=hpre j hjm
   obtain ⟨lb,e1,_⟩:=hC2.hand j v hj
   obtain ⟨lb2,e2,e3⟩:=hbg j j ej
   rw [e1] at e2
   cases e2
   refine ⟨lb,lb.sub (idxσ ids),e1,by rw [unTchN_get,List.getElem?_map,e3];simp [hjm],by rw [List.getD_eq_getElem?_getD,ej];rfl,fun ht=>by rw [Lb.sub_tch] at ht;exact ht⟩)
 exact ⟨_,h1,SR.sub _ (Nat.le_refl _) (fun b _ hb=>⟨h2 b hb,rfl⟩) h3 hrF⟩
theorem fin_ok (hC:Core γ κ fr L w) {m:Nat} (hm:∀ j v,κ.L j=some v→j < m) {r0 r:SV} {fr':Fr} {v:Value} (h:fin m r0 fr=some (r,fr')) (hv:SR (MA κ.M fr L) L w r0 v):∃ L',Core γ κ fr' L' w∧SR (MA κ.M fr' L') L' w r v:=by
 unfold fin at h
 simp only at h
 have hr1:=thaw_ok hC _ v (un_ok hv)
 generalize thaw fr (un r0)=r1 at h hr1
 split at h
 ·rename_i hids
  cases h
  have hm0:m=0:=by
   obtain ⟨q,hq⟩:=dedup_pre r.refs (List.range m)
   rw [hq,List.append_eq_nil_iff,List.range_eq_nil] at hids
   exact hids.1
  have hrefs:r.refs=[]:=by
   cases hx:r.refs with
   | nil=>rfl
   | cons i l=>
    have:=dedup_mem r.refs (List.range m) i (.inr (by rw [hx];simp))
    rw [hids] at this
    cases this
  obtain ⟨h1,h2,h3⟩:=hC.refr [] (fun j=>j) (fun _=>none) (fun j k hj=>by simp at hj) (fun i j v h=>by cases h) (fun j lb h=>by simp at h) (fun j v hj=>by have:=hm j v hj;omega)
  exact ⟨_,h1,SR.norefs (fun b _ hb=>⟨h2 b hb,rfl⟩) (Nat.le_refl _) hr1 hrefs⟩
 ·split at h
  ·cases h
  ·rename_i bs hbs
   have hnd:(dedup (List.range m) r1.refs).Nodup:=dedup_nodup _ _ List.nodup_range
   have hpre:∀ j,j < m→(dedup (List.range m) r1.refs)[j]?=some j:=fun j hjm=>by
    obtain ⟨q,hq⟩:=dedup_pre r1.refs (List.range m)
    rw [hq,List.getElem?_append_left (by simpa using hjm),List.getElem?_range hjm]
   generalize dedup (List.range m) r1.refs=ids at *
   split at h
   ·split at h
    ·cases h
    ·rename_i bs2 hb2
     split at h
     ·cases h
     ·cases h
      refine pack_ok hC hm (close_nodup fr 4 ids hnd) (fun j hj=>?_) hb2 hr1
      obtain ⟨q,hq⟩:=close_pre fr 4 ids
      rw [hq,List.getElem?_append_left (lt_of_get (hpre j hj))]
      exact hpre j hj
   ·cases h
    obtain ⟨hC1,hT1,hM1⟩:=hC.frz (inner m fr ids)
    obtain ⟨hC2,hM2⟩:=hC1.recells m
    have hbs2:=getAll_map (f:=recellB m (freeze fr (inner m fr ids))) hbs
    exact pack_ok hC2 hm hnd hpre hbs2 (SR.on (Nat.le_refl _) (fun b _ hb=>⟨(hM2 b).1 (hM1 b hb),rfl⟩) (fun _ _ h=>h) hr1)
end
end Go.Proofs.YtjdhnoffoknlnaaGreatDoor
namespace Go.Proofs.YtjdhnoffoknlnaaGreatDoor
open Go.RowKit
def noRF:Code→Bool
 | .seq a b=>noRF a && noRF b
 | .cond _ a b=>noRF a && noRF b
 | .block _ b=>noRF b
 | .loop b=>noRF b
 | .rangeFunc ..=>false
 | _=>true
def ISeq (γ:Glob) (P:Program) (gf:Nat) (lb:Array Value) (T:AV→Value→Prop) (yss:List (List AV)) (wh:Bool):Prop:=
 Known P gf∧∀ (l:Nat) (J:List (List AV)→(Nat→Prop)→World→Prop) (Jx:World→Prop) (A:Nat→Prop) (W:World),
  (∀ r A X Y,J r A X→Below X.heap.size X Y→J r A Y)→(∀ X Y,Jx X→Below X.heap.size X Y→Jx Y)→
  (∀ r A X,J r A X→Core γ ⟨A,fun _=>False,fun _=>False,X,fun _=>none⟩ [] (fun _=>none) X∧∀ x v,T x v→VR A X x v)→
  (wh=false→∀ A X,¬ J [] A X)→
  (∀ (y:List AV) (r:List (List AV)) (A:Nat→Prop) (us:Array Value) (X:World),J (y::r) A X→us.size=y.length→(∀ (j:Nat) (x:AV) (u:Value),y[j]?=some x→us[j]?=some u→VR A X x u)→
   ∀ m,YieldAt (Fw none) m P l us X fun e Y=>(e=.returned (.bool true)∧∃ A',J r A' Y)∨(e=.returned (.bool false)∧Jx Y))→
  J yss A W→
  ∀ m,CallsIn (Fw none) m P gf (#[.func (.yield l) #[] #[]]++lb) W fun e Y=>(∃ v,e=.returned v)∧((wh=true∧∃ A',J [] A' Y)∨Jx Y)
def Cap (xs:List AV) (lb:Array Value) (x:AV) (u:Value):Prop:=∃ j:Nat,xs[j]?=some x∧lb[j]?=some u
def wfC (g:Cfg) (f n:Nat):Code→Bool
 | .region id ops draw=>dstOk n ops.toList && (match draw with
  | true=>(match effK (g.eff f id) with
   | 0=>drawOk ops (g.eff f id)
   | 1=>drawOkF ops (g.eff f id)
   | 4=>drawOkD ops (hoL (g.eff f id))
   | _=>true)
  | false=>true)
 | .seq a b=>wfC g f n a && wfC g f n b
 | .cond _ a b=>wfC g f n a && wfC g f n b
 | .block _ b=>wfC g f n b
 | .loop b=>wfC g f n b
 | .rangeFunc _ ps asg b=>wfC g f n asg && wfC g f n b && noRF asg && noRF b && ps.toList.all fun p=>Nat.blt p n
 | _=>true
def wfF (g:Cfg) (f:Nat):Bool:=match g.P.funcs[f]? with
 | none=>false
 | some fn=>match fn.body with
  | none=>false
  | some c => wfC g f fn.ntmps c && !(fn.name == "runtime.NumGoroutine") && Nat.ble fn.results.size 4
structure Wf (g:Cfg) (γ:Glob):Prop where
 seq:∀ (gf:Nat) (xs:List AV) (yss:List (List AV)) (wh:Bool),g.seq gf xs=some (yss,wh)→∀ (lb:Array Value),lb.size=xs.length→ISeq γ g.P gf lb (Cap xs lb) yss wh:=by intro _ _ _ _ h;cases h
 mixed:g.P.follows .mixedOrders=true
 fns:∀ f,g.ok f=true→wfF g f=true
 ext:∀ (f:Nat) (xs:List AV) (r:SV) (fr':Fr),g.ext f xs=some (r,fr')→Known g.P f∧∀ (κ:Ctx) (w:World) (us:Array Value),Core γ κ [] κ.L w→κ.W=w→us.size=xs.length→(∀ (j:Nat) (x:AV) (u:Value),xs[j]?=some x→us[j]?=some u→VR (MA κ.M [] κ.L) w x u)→
  Calls g.P f us w fun e w'=>∃ v L',e=.returned v∧Core γ κ fr' L' w'∧SR (MA κ.M fr' L') L' w' r v
 exh:CallSnd g.P γ g.exh:=by intro _ _ _ _ _ h;cases h
def Out.toExit:Out→Exit
 | .normal=>.normal
 | .exit id=>.exit id
 | .ret=>.ret
def At (γ:Glob) (κ:Ctx) (n:Nat) (env:Env) (fr:Fr) (a:Act) (w:World):Prop:=Marks κ w a.defers∧a.tmps.size=n∧∃ L,Core γ κ fr L w∧∀ t,SR (MA κ.M fr L) L w (env t) (a.tmps.getD t undef)
def Post (γ:Glob) (κ:Ctx) (n:Nat) (o:Out) (env:Env) (fr:Fr):Exit→Act→World→Prop:=fun e a w=>e=o.toExit∧At γ κ n env fr a w
def LoopSnd (g:Cfg) (γ:Glob) (Lp:LoopF):Prop:=∀ (f:Nat) (b:Code) (env:Env) (fr:Fr) (o:Out) (env':Env) (fr':Fr),Lp f b env fr=some (o,env',fr')→∀ n,wfC g f n b=true→∀ (κ:Ctx) rd dn a w,((rd=none∧¬ κ.H κ.W.heap.size)∨noRF b=true)→At γ κ n env fr a w→(Code.loop b).wpIn (Fw rd) dn g.P (Post γ κ n o env' fr') a w
section
variable {g:Cfg} {γ:Glob} {κ:Ctx} {C:CallF} {Lp:LoopF} {n:Nat}
theorem own_set {fr:Fr} {L:Ls} {i:Nat} {lb lb':Lb} (hi:fr[i]?=some lb) (hro:lb'.ro=lb.ro) (b:Nat):Own (fr.set i lb') L b↔Own fr L b:=by
 have hlt:=lt_of_get hi
 constructor
 ·rintro ⟨j,v,x,h1,h2,h3,h4⟩
  by_cases hj:i=j
  ·subst hj
   rw [List.getElem?_set_self hlt] at h3
   cases h3
   exact ⟨i,v,lb,h1,h2,hi,hro ▸ h4⟩
  ·rw [List.getElem?_set_ne hj] at h3
   exact ⟨j,v,x,h1,h2,h3,h4⟩
 ·rintro ⟨j,v,x,h1,h2,h3,h4⟩
  by_cases hj:i=j
  ·subst hj
   rw [hi] at h3
   cases h3
   exact ⟨i,v,lb',h1,h2,List.getElem?_set_self hlt,hro.trans h4⟩
  ·exact ⟨j,v,x,h1,h2,by rw [List.getElem?_set_ne hj];exact h3,h4⟩
theorem Core.retell {fr:Fr} {L:Ls} {w:World} (hC:Core γ κ fr L w) {i:Nat} {lb lb':Lb} (hi:fr[i]?=some lb) (hro:lb'.ro=lb.ro) (ht:lb'.tch=lb.tch) (hb:LbOk (MA κ.M fr L) L w i lb'):Core γ κ (fr.set i lb') L w∧MA κ.M (fr.set i lb') L=MA κ.M fr L:=by
 have hlt:=lt_of_get hi
 have hM:MA κ.M (fr.set i lb') L=MA κ.M fr L:=by
  funext b
  unfold MA
  rw [propext (own_set hi hro b)]
 have get:∀ {j:Nat} {x:Lb},(fr.set i lb')[j]?=some x→∃ y:Lb,fr[j]?=some y∧x.ro=y.ro∧x.tch=y.tch:=fun {j x} h=>by
  by_cases hj:i=j
  ·subst hj
   rw [List.getElem?_set_self hlt] at h
   cases h
   exact ⟨lb,hi,hro,ht⟩
  ·rw [List.getElem?_set_ne hj] at h
   exact ⟨x,h,rfl,rfl⟩
 refine ⟨?_,hM⟩
 exact {
  glob:=hC.glob
  gn:=hC.gn
  gx:=hC.gx
  fresh:=hC.fresh
  os:=hC.os
  tape:=hC.tape
  output:=hC.output
  size:=hC.size
  kept:=hC.kept
  lim:=fun j v hj=>by rw [List.length_set];exact hC.lim j v hj
  new:=fun j v b x h1 h2 h3=>by
   obtain ⟨y,hy,hr,_⟩:=get h3
   obtain ⟨q1,q2,q3,q4⟩:=hC.new j v b y h1 h2 hy
   exact ⟨q1,q2,q3,fun h=>q4 (hr ▸ h)⟩
  dis:=hC.dis
  hand:=fun j v hj=>by
   obtain ⟨y,hy,hl⟩:=hC.hand j v hj
   by_cases hij:i=j
   ·subst hij
    rw [hi] at hy
    cases hy
    exact ⟨lb',List.getElem?_set_self hlt,fun h=>hl (ht ▸ h)⟩
   ·exact ⟨y,by rw [List.getElem?_set_ne hij];exact hy,hl⟩
  blk:=fun j x hx=>by
   rw [hM]
   by_cases hij:i=j
   ·subst hij
    rw [List.getElem?_set_self hlt] at hx
    cases hx
    exact hb
   ·rw [List.getElem?_set_ne hij] at hx
    exact hC.blk j x hx }
theorem nilP_spec {fr:Fr} {s:SV} {i:Nat} {T:TypeId} (h:nilP fr s=some (i,T)):fr[i]?=some (.box false T [.nil]):=by
 unfold nilP at h
 split at h
 ·split at h
  ·rename_i hb
   cases h
   exact hb
  ·cases h
 ·cases h
theorem nilPs_spec {fr:Fr} {i:Nat} {T:TypeId}:∀ {l:List SV},nilPs fr l=some (i,T)→fr[i]?=some (.box false T [.nil])
 | [],h=>by cases h
 | s::r,h=>by
  unfold nilPs at h
  split at h
  ·rename_i x hx
   cases h
   exact nilP_spec hx
  ·exact nilPs_spec h
theorem nilBox_spec {fr:Fr} {s:SV} {i:Nat} {T:TypeId} (h:nilBox fr s=some (i,T)):fr[i]?=some (.box false T [.nil]):=by
 unfold nilBox at h
 split at h
 ·exact nilPs_spec h
 ·exact nilP_spec h
theorem At.own {env:Env} {fr:Fr} {a:Act} {w:World}:∀ (sl:List (Nat×Nat)) (env:Env) (fr:Fr),At γ κ n env fr a w→At γ κ n (ownE sl env fr).1 (ownE sl env fr).2 a w
 | [],env,fr,h=>h
 | (t,sz)::r,env,fr,h=>by
  have key:(∀ (L:Ls),SR (MA κ.M fr L) L w (env t) (a.tmps.getD t undef)→∃ q,a.tmps.getD t undef=.slice q 0 0)→At γ κ n (upd env t (.ls fr.length)) (fr++[.row false false sz []]) a w:=fun hq=>by
   obtain ⟨h1,h2,L,hC,hV⟩:=h
   obtain ⟨q,hq⟩:=hq L (hV t)
   obtain ⟨hC',hT⟩:=hC.push (Below.refl _ _) (.row false false sz []) (.slice q 0 0) (fun b hb=>by cases q <;> cases hb) fun hT=>⟨0,_,[],Lput_self,.inl ⟨rfl,rfl,q,rfl⟩,by rw [List.length_nil];omega,fun k cs hk=>by simp at hk,fun k j cs x hk _=>by simp at hk⟩
   refine ⟨h1,h2,_,hC',fun u=>?_⟩
   by_cases hu:u=t
   ·subst hu
    rw [upd_same,hq]
    exact .ls _ _ Lput_self rfl
   ·rw [upd_ne hu];exact hT.sr (hV u)
  unfold ownE
  split
  ·split
   ·rename_i x hx
    refine At.own (env:=env) (fr:=fr) r _ _ ?_
    obtain ⟨h1,h2,L,hC,hV⟩:=h
    obtain ⟨hC1,hT1,hM1⟩:=hC.frz (rch fr deep (un (env t)))
    refine ⟨h1,h2,L,hC1,fun u=>?_⟩
    by_cases hu:u=t
    ·subst hu
     rw [upd_same]
     exact .t _ _ ((toAV_ok hC hM1 deep).1 _ x _ hx (frz_free hC) (un_ok (hV u)))
    ·rw [upd_ne hu];exact hT1.sr (hV u)
   ·exact At.own (env:=env) (fr:=fr) r _ _ h
  split
  ·rename_i he
   exact At.own (env:=env) (fr:=fr) r _ _ (key fun L hs=>by rw [he] at hs;generalize a.tmps.getD t undef=z at hs;cases hs;exact ⟨none,rfl⟩)
  ·rename_i he
   exact At.own (env:=env) (fr:=fr) r _ _ (key fun L hs=>by rw [he] at hs;generalize a.tmps.getD t undef=z at hs;cases hs with|tc _ q _=>exact ⟨q,rfl⟩)
  ·split
   ·rename_i i T hnb
    have hbx:=nilBox_spec hnb
    refine At.own (env:=env) (fr:=fr) r _ _ ?_
    obtain ⟨h1,h2,L,hC,hV⟩:=h
    obtain ⟨g,us,hL,hg,hsz,hus⟩:=hC.blk i _ hbx
    have hs1:us.size=1:=hsz
    have hu0:us[0]?=some us[0]:=Array.getElem?_eq_getElem (by omega)
    have h0:=hus 0 .nil us[0] rfl hu0
    have hv:us[0]=.slice none 0 0:=by
     generalize us[0]=z at h0
     cases h0
     rfl
    obtain ⟨hC',hT⟩:=hC.push (Below.refl _ _) (.row false false sz []) (.slice none 0 0) (fun b hb=>by cases hb) fun hT=>⟨0,_,[],Lput_self,.inl ⟨rfl,rfl,none,rfl⟩,by rw [List.length_nil];omega,fun k cs hk=>by simp at hk,fun k j cs x hk _=>by simp at hk⟩
    have hlt:=lt_of_get hbx
    have hbx':(fr++[Lb.row false false sz []])[i]?=some (.box false T [.nil]):=by rw [List.getElem?_append_left hlt];exact hbx
    have hLi:=hC'.blk i _ hbx'
    obtain ⟨g',us',hL',hg',hsz',hus'⟩:=hLi
    have hgg:g'=g∧us'=us:=by
     have e1:=hT.sr (SR.lp i 0 g hL)
     cases e1 with
     | lp _ _ _ hq=>
      rw [hL'] at hq
      cases hq
      rw [hg] at hg'
      cases hg'
      exact ⟨rfl,rfl⟩
    obtain ⟨rfl,rfl⟩:=hgg
    obtain ⟨hC2,hM2⟩:=hC'.retell hbx' (lb':=.box false T [.ls fr.length]) rfl rfl ⟨g',us',hL',hg',hsz',fun j x u hx hu=>by
     match j with
     | 0=>
      cases hx
      rw [hu0] at hu
      cases hu
      rw [hv]
      exact .ls _ _ Lput_self rfl
     | j+1=>simp at hx⟩
    have e:fr.set i (.box false T [.ls fr.length])++[Lb.row false false sz []]=(fr++[Lb.row false false sz []]).set i (.box false T [.ls fr.length]):=by
     rw [List.set_append_left _ _ hlt]
    rw [e]
    refine ⟨h1,h2,_,hC2,fun u=>?_⟩
    rw [hM2]
    exact hT.sr (hV u)
   ·exact At.own (env:=env) (fr:=fr) r _ _ h
theorem mkEnv_ok {A:Nat→Prop} {L:Ls} {w:World} {tm:Nat→Value}:∀ (l:List (Nat×SV)),(∀ p∈l,SR A L w p.2 (tm p.1))→∀ t,SR A L w (mkEnv l t) (tm t)
 | [],_,t=>.dead _
 | (k,v)::r,h,t=>by
  unfold mkEnv
  split
  ·rename_i ht
   obtain rfl:t=k:=by simpa using ht
   exact h (t,v) (by simp)
  ·exact mkEnv_ok r (fun p hp=>h p (by simp [hp])) t
theorem trim_frz (h:Nat) (fr:Fr):Go.Proofs.YtjdhnoffoknlnaaGreatDoor.trim h (freeze fr ((List.range fr.length).filter (Nat.ble h)))=Go.Proofs.YtjdhnoffoknlnaaGreatDoor.trim h fr:=by
 unfold Go.Proofs.YtjdhnoffoknlnaaGreatDoor.trim
 rw [freeze_len]
 split
 ·rename_i hle
  rw [Nat.ble_eq] at hle
  have:(List.range fr.length).filter (Nat.ble h)=[]:=by
   rw [List.filter_eq_nil_iff]
   intro i hi
   have:=List.mem_range.1 hi
   rw [Nat.ble_eq]
   omega
  rw [this]
  rfl
 ·congr 1
  apply List.ext_getElem?
  intro j
  rw [List.getElem?_take,List.getElem?_take]
  split
  ·rename_i hj
   rw [freeze_get]
   have:hasN ((List.range fr.length).filter (Nat.ble h)) j=false:=by
    rw [hasN_not]
    intro hm
    have:=(List.mem_filter.1 hm).2
    rw [Nat.ble_eq] at this
    omega
   rw [this]
   cases fr[j]? with
   | none=>rfl
   | some lb=>cases lb <;> rfl
  ·rfl
theorem At.handed {env:Env} {fr:Fr} {a:Act} {w:World} (hA:At γ κ n env fr a w):∀ j v,κ.L j=some v→j < fr.length:=fun j v hj=>by
 obtain ⟨_,_,L,hC,_⟩:=hA
 obtain ⟨lb,h1,_⟩:=hC.hand j v hj
 exact lt_of_get h1
theorem At.head {lv:Option (List Nat)} {h:Nat} {env:Env} {fr:Fr} {a:Act} {w:World} (hA:At γ κ n env fr a w) (hh:∀ j v,κ.L j=some v→j < h):At γ κ n (head lv h env fr).1 (head lv h env fr).2 a w:=by
 unfold Go.Proofs.YtjdhnoffoknlnaaGreatDoor.head
 split
 ·exact hA
 ·rename_i l
  have hh:∀ j v,κ.L j=some v→j < hOf l h env fr:=fun j v hj=>by
   unfold hOf
   split
   ·exact hA.handed j v hj
   ·exact hh j v hj
  simp only
  generalize hOf l h env fr=h at hh ⊢
  obtain ⟨h1,h2,L,hC,hV⟩:=hA
  obtain ⟨hC1,hT1,hM1⟩:=hC.frz ((List.range fr.length).filter (Nat.ble h))
  obtain ⟨L',hC',hS⟩:=hC1.trim h hh
  rw [trim_frz] at hC' hS
  refine ⟨h1,h2,L',hC',fun t=>mkEnv_ok (tm:=fun t=>a.tmps.getD t undef) _ (fun p hp=>?_) t⟩
  obtain ⟨k,_,rfl⟩:=List.mem_map.1 hp
  have hk:=un_ok (hV k)
  show SR _ _ _ (cutV fr h (un (env k))) _
  unfold cutV
  split
  ·exact hS _ _ (hT1.sr hk)
  ·split
   ·rename_i x hall hx
    have hv:=(toAV_ok hC hM1 deep).1 _ x _ hx (fun i hi u b hu hb=>by
     refine frz_free hC i ?_ u b hu hb
     have:=List.all_eq_true.1 hall i hi
     exact List.mem_filter.2 ⟨List.mem_range.2 (hC.lim i u hu),this⟩) hk
    have:=hS _ _ (SR.t x _ hv)
    rw [SV.sub] at this
    exact this
   ·exact hS _ _ (hT1.sr hk)
end
end Go.Proofs.YtjdhnoffoknlnaaGreatDoor
namespace Go.Proofs.YtjdhnoffoknlnaaGreatDoor
open Go.RowKit
section
variable {γ:Glob} {κ:Ctx} {fr:Fr} {L:Ls} {w:World}
theorem Marks.below {w':World} {ds:List Deferred} (h:Marks κ w ds) (hb:Below w.heap.size w w'):Marks κ w' ds:=by
 obtain ⟨⟨Ds,h1,h2,h3⟩,h4⟩:=h
 exact ⟨⟨Ds,h1,h2,fun D hD=>⟨(h3 D hD).1,(hb.block D (Array.getElem?_eq_some_iff.1 (h3 D hD).2).1).trans (h3 D hD).2⟩⟩,h4⟩
theorem Marks.put {l:Nat} {r:Loop} {o:Obj} {ds:List Deferred} (h:Marks κ w ds) (hl:w.heap[l]?=some (.loop r)):Marks κ (w.putObj l o) ds:=by
 obtain ⟨⟨Ds,h1,h2,h3⟩,h4⟩:=h
 refine ⟨⟨Ds,h1,h2,fun D hD=>⟨(h3 D hD).1,?_⟩⟩,h4⟩
 have hne:D≠l:=fun e=>by subst e;rw [(h3 D hD).2] at hl;cases hl
 exact (World.putObj_heap_other hne).trans (h3 D hD).2
theorem Core.reb (h:Core γ κ fr L w) {W1 w1:World} (hW:Lq γ.n κ.W W1) (hw:Lq γ.n w w1) (hk:∀ k,k < κ.W.heap.size→¬ κ.X k→w1.heap[k]?=W1.heap[k]?):Core γ ⟨κ.M,κ.X,κ.H,W1,κ.L⟩ fr L w1 where
 glob:=γ.stays _ _ h.glob fun k hk=>by
  rcases hw.blk k with h1|⟨hB,_⟩
  ·exact h1
  ·omega
 gn:=by show γ.n≤W1.heap.size;rw [hW.size];exact h.gn
 gx:=fun b hb=>by show _∧b < W1.heap.size;rw [hW.size];exact h.gx b hb
 fresh:=fun b hb=>h.fresh b (by have hb:W1.heap.size≤b:=hb;rw [hW.size] at hb;exact hb)
 os:=(hw.os.trans h.os).trans hW.os.symm
 tape:=(hw.tape.trans h.tape).trans hW.tape.symm
 output:=(hw.output.trans h.output).trans hW.output.symm
 size:=by show W1.heap.size≤_;rw [hW.size,hw.size];exact h.size
 kept:=fun k hk1 hx=>hk k (by have hk1:k < W1.heap.size:=hk1;rw [hW.size] at hk1;exact hk1) hx
 lim:=h.lim
 new:=fun i v b lb h1 h2 h3=>by
  show _∧_∧(W1.heap.size≤b∨_)∧(_→W1.heap.size≤b∨_)
  rw [hw.size,hW.size]
  exact h.new i v b lb h1 h2 h3
 dis:=h.dis
 hand:=h.hand
 blk:=fun i lb hi=>(h.blk i lb hi).lq hw
theorem setPs_ok {A:Nat→Prop}:∀ (ps:List Nat) (ys:List AV) (us:List Value) (env:Env) (tm:Array Value),ps.length=ys.length→us.length=ys.length→(∀ p∈ps,p < tm.size)→(∀ t,SR A L w (env t) (tm.getD t undef))→(∀ (j:Nat) (x:AV) (u:Value),ys[j]?=some x→us[j]?=some u→VR A w x u)→
  ∀ t,SR A L w (setPs ps ys env t) (((ps.zip us).foldl (fun t (p,v)=>t.setIfInBounds p v) tm).getD t undef)
 | [],ys,us,env,tm,_,_,_,h,_=>by unfold setPs;simpa using h
 | p::ps,[],us,env,tm,h1,_,_,_,_=>by cases h1
 | p::ps,y::ys,[],env,tm,_,h2,_,_,_=>by cases h2
 | p::ps,y::ys,u::us,env,tm,h1,h2,hp,h,hr=>by
  unfold setPs
  rw [List.zip_cons_cons,List.foldl_cons]
  refine setPs_ok ps ys us _ _ (by simpa using h1) (by simpa using h2) (fun q hq=>by rw [Array.size_setIfInBounds];exact hp q (by simp [hq])) (fun t=>?_) (fun j x v hx hv=>hr (j+1) x v (by simpa using hx) (by simpa using hv)) 
  by_cases ht:t=p
  ·subst ht
   rw [upd_same,Array.getD_eq_getD_getElem?,Array.getElem?_setIfInBounds_self_of_lt (hp t (by simp))]
   exact .t _ _ (hr 0 y u rfl rfl)
  ·rw [upd_ne ht,Array.getD_eq_getD_getElem?,Array.getElem?_setIfInBounds_ne (Ne.symm ht),← Array.getD_eq_getD_getElem?]
   exact h t
theorem zipfold_size:∀ (l:List (Nat×Value)) (tm:Array Value),(l.foldl (fun t (p,v)=>t.setIfInBounds p v) tm).size=tm.size
 | [],_=>rfl
 | (p,v)::l,tm=>by rw [List.foldl_cons,zipfold_size l];exact Array.size_setIfInBounds
def Out.code:Out→Code
 | .normal=>.skip
 | .exit id=>.exit id
 | .ret=>.ret
structure Rdy (γ:Glob) (κ:Ctx) (T:AV→Value→Prop) (S:Nat) (lo:Loop) (tm:Array Value) (ds:List Deferred) (env:Env) (fr:Fr) (L:Ls) (X:World):Prop where
 core:Core γ κ fr L X
 env:∀ t,SR (MA κ.M fr L) L X (env t) (tm.getD t undef)
 cap:∀ x v,T x v→VR (MA κ.M fr L) X x v
 marks:Marks κ X ds
 recd:X.heap[S+1]?=some (.loop lo)
 dfr:X.heap[S]?=some (.deferred (some []))
variable {T:AV→Value→Prop} {S:Nat} {lo lo':Loop} {tm:Array Value} {ds:List Deferred} {env:Env} {X Y:World}
theorem Rdy.below (h:Rdy γ κ T S lo tm ds env fr L X) (hb:Below X.heap.size X Y):Rdy γ κ T S lo tm ds env fr L Y where
 core:=h.core.later hb
 env:=fun t=>(h.env t).later hb
 cap:=fun x v hx=>(h.cap x v hx).later hb
 marks:=h.marks.below hb
 recd:=(hb.block _ (Array.getElem?_eq_some_iff.1 h.recd).1).trans h.recd
 dfr:=(hb.block _ (Array.getElem?_eq_some_iff.1 h.dfr).1).trans h.dfr
theorem Rdy.put (hS:κ.W.heap.size≤S) (h:Rdy γ κ T S lo tm ds env fr L X):Rdy γ κ T S lo' tm ds env fr L (X.putObj (S+1) (.loop lo')) where
 core:=h.core.lq (Lq.put (by omega) h.recd rfl)
 env:=fun t=>(h.env t).lq (Lq.put (B:=S+1) (Nat.le_refl _) h.recd rfl)
 cap:=fun x v hx=>(h.cap x v hx).lq (Lq.put (B:=S+1) (Nat.le_refl _) h.recd rfl)
 marks:=h.marks.put h.recd
 recd:=World.putObj_heap_same (Array.getElem?_eq_some_iff.1 h.recd).1
 dfr:=(World.putObj_heap_other (by omega)).trans h.dfr
theorem Rdy.head {lv:Option (List Nat)} {h:Nat} (hA:Rdy γ κ T S lo tm ds env fr L X) (hh:∀ j v,κ.L j=some v→j < h):∃ L',Rdy γ κ T S lo tm ds (head lv h env fr).1 (head lv h env fr).2 L' X:=by
 unfold Go.Proofs.YtjdhnoffoknlnaaGreatDoor.head
 split
 ·exact ⟨L,hA⟩
 ·rename_i l
  have hh:∀ j v,κ.L j=some v→j < hOf l h env fr:=fun j v hj=>by
   unfold hOf
   split
   ·obtain ⟨lb,h1,_⟩:=hA.core.hand j v hj
    exact lt_of_get h1
   ·exact hh j v hj
  simp only
  generalize hOf l h env fr=h at hh ⊢
  obtain ⟨hC1,hT1,hM1⟩:=hA.core.frz ((List.range fr.length).filter (Nat.ble h))
  obtain ⟨L',hC',hS⟩:=hC1.trim h hh
  rw [trim_frz] at hC' hS
  refine ⟨L',hC',fun t=>mkEnv_ok (tm:=fun t=>tm.getD t undef) _ (fun p hp=>?_) t,fun x v hx=>?_,hA.marks,hA.recd,hA.dfr⟩
  ·obtain ⟨k,_,rfl⟩:=List.mem_map.1 hp
   have hk:=un_ok (hA.env k)
   show SR _ _ _ (cutV fr h (un (env k))) _
   unfold cutV
   split
   ·exact hS _ _ (hT1.sr hk)
   ·split
    ·rename_i x hall hx
     have hv:=(toAV_ok hA.core hM1 deep).1 _ x _ hx (fun i hi u b hu hb=>by
      refine frz_free hA.core i ?_ u b hu hb
      have:=List.all_eq_true.1 hall i hi
      exact List.mem_filter.2 ⟨List.mem_range.2 (hA.core.lim i u hu),this⟩) hk
     have:=hS _ _ (SR.t x _ hv)
     rw [SV.sub] at this
     exact this
    ·exact hS _ _ (hT1.sr hk)
  ·have:=hS _ _ (SR.t x _ (hT1.vr (hA.cap x v hx)))
   rw [SV.sub] at this
   cases this with
   | t _ _ hv=>exact hv
theorem Loop.ready_eq (h1:lo.state=.ready) (h2:lo.pending=none):{ { lo with state:=.busy } with state:=.ready,pending:=none }=lo:=by
 cases lo;simp_all
theorem round_ok {g:Cfg} {n:Nat} {lv:Option (List Nat)} {A B:Env→Fr→Option (Out×Env×Fr)} {asg body:Code}
  (hA:∀ env fr o env' fr',A env fr=some (o,env',fr')→∀ κ l dn a w,At γ κ n env fr a w→asg.wpIn (Fw (some l)) dn g.P (Post γ κ n o env' fr') a w)
  (hB:∀ env fr o env' fr',B env fr=some (o,env',fr')→∀ κ l dn a w,At γ κ n env fr a w→body.wpIn (Fw (some l)) dn g.P (Post γ κ n o env' fr') a w)
  (hps:∀ p∈lo.params.toList,p < n) (hS:κ.W.heap.size≤S) (h1:lo.state=.ready) (h2:lo.pending=none) (h3:lo.assign=asg) (h4:lo.body=body) (htm:lo.tmps.size=n)
  (h:Rdy γ κ T S lo lo.tmps ds env fr L X) {y:List AV} {o:Out} {e:Env} {r:Fr} (hr:roundE lv A B lo.params.toList y env fr=some (o,e,r)) {us:Array Value} (hus:us.size=y.length)
  (hv:∀ (j:Nat) (x:AV) (u:Value),y[j]?=some x→us[j]?=some u→VR (MA κ.M fr L) X x u) (m:Nat) :
  YieldAt (Fw none) m g.P (S+1) us X fun en Y=>(o=.normal∧en=.returned (.bool true)∧∃ L',Rdy γ κ T S lo lo.tmps ds e r L' Y)∨(o≠.normal∧en=.returned (.bool false)∧∃ L',Rdy γ κ T S { lo with state:=.done,pending:=some o.code } lo.tmps ds e r L' Y):=by
 have hγ:γ.n≤S+1:=by have:=h.core.gn;omega
 unfold roundE at hr
 split at hr
 ·cases hr
 rename_i hlen
 rw [Nat.beq_eq] at hlen
 split at hr
 ·cases hr
 rename_i bs hb
 split at hr
 rotate_left
 ·cases hr
 rename_i e1 r1 hAe
 split at hr
 ·cases hr
 rename_i o1 e2 r2 hBe
 split at hr
 ·cases hr
 rename_i hkd
 obtain ⟨c1,c2,c3⟩:=h.core.handed List.nodup_range hb
 have hnX:¬ (handCtx κ fr L X (List.range fr.length)).X (S+1):=fun ⟨i,_,v,lb,q1,q2,q3,q4⟩=>(h.core.mark (by omega) h.recd rfl).2 ⟨i,v,lb,q1,q2,q3,q4⟩
 have hlt:S+1 < X.heap.size:=(Array.getElem?_eq_some_iff.1 h.recd).1
 have at0:At γ (handCtx κ fr L X (List.range fr.length)) n (setPs lo.params.toList y fun t=>(env t).sub (idxσ (List.range fr.length))) (bs.map fun b=>unTch (b.sub (idxσ (List.range fr.length)))) { tmps:=(lo.params.zip us).foldl (fun t (p,v)=>t.setIfInBounds p v) lo.tmps,defers:=[] } X:=by
  have hz:(lo.params.zip us).foldl (fun t (p,v)=>t.setIfInBounds p v) lo.tmps=(lo.params.toList.zip us.toList).foldl (fun t (p,v)=>t.setIfInBounds p v) lo.tmps:=by
   rw [← Array.foldl_toList,Array.toList_zip]
  rw [hz]
  refine ⟨Marks.nil,(zipfold_size _ _).trans htm,_,c1,setPs_ok _ _ _ _ _ (by rw [hlen]) (by simpa using hus) (fun p hp=>by rw [htm];exact hps p hp) (fun t=>c3 _ _ (h.env t)) fun j x u hx hu=>?_⟩
  exact VR.on (Nat.le_refl _) (fun b _ hm=>⟨c2 b hm,rfl⟩) (hv j x u hx (by simpa using hu))
 refine ⟨lo.fn,(lo.params.zip us).foldl (fun t (p,v)=>t.setIfInBounds p v) lo.tmps,asg,body,?_,roundIn_of_wpIn trivial ?_⟩
 ·have:=run_yield (P:=g.P) (args:=us) h.recd (by rw [hus,hlen];simp)
  rw [h3,h4] at this
  exact this
 refine wpIn_mono (hA _ _ _ _ _ hAe _ (S+1) m _ X at0) fun ex a1 X1 ⟨he,m1,s1,L1,hC1,hV1⟩=>?_
 subst he
 have hl1:X1.heap[S+1]?=some (.loop lo):=(hC1.kept (S+1) hlt hnX).trans h.recd
 refine ⟨_,run_beginRound hl1 h1,?_⟩
 have hC2:Core γ ⟨(handCtx κ fr L X (List.range fr.length)).M,(handCtx κ fr L X (List.range fr.length)).X,(handCtx κ fr L X (List.range fr.length)).H,X.putObj (S+1) (.loop { lo with state:=.busy }),(handCtx κ fr L X (List.range fr.length)).L⟩ r1 L1 (X1.putObj (S+1) (.loop { lo with state:=.busy })):=
  hC1.reb (Lq.put hγ h.recd rfl) (Lq.put hγ hl1 rfl) fun k hk hx=>by
   by_cases hkS:k=S+1
   ·subst hkS
    rw [World.putObj_heap_same hlt,World.putObj_heap_same (Array.getElem?_eq_some_iff.1 hl1).1]
   ·rw [World.putObj_heap_other hkS,World.putObj_heap_other hkS]
    exact hC1.kept k hk hx
 have at2:At γ _ n e1 r1 a1 (X1.putObj (S+1) (.loop { lo with state:=.busy })):=⟨by
  obtain ⟨⟨Ds,n1,n2,n3⟩,n4⟩:=m1.put (o:=.loop { lo with state:=.busy }) hl1
  exact ⟨⟨Ds,n1,n2,fun D hD=>⟨by
   show (X.putObj (S+1) _).heap.size≤D
   rw [World.putObj_size];exact (n3 D hD).1,(n3 D hD).2⟩⟩,fun hh=>n4 (by
   have hh:(handCtx κ fr L X (List.range fr.length)).H (X.putObj (S+1) (.loop { lo with state:=.busy })).heap.size:=hh
   rw [World.putObj_size] at hh;exact hh)⟩,s1,L1,hC2,fun t=>(hV1 t).lq (Lq.put (B:=S+1) (Nat.le_refl _) hl1 rfl)⟩
 refine wpIn_mono (hB _ _ _ _ _ hBe _ (S+1) m a1 _ at2) fun ex a3 X3 ⟨he,_,_,L3,hC3,hV3⟩=>?_
 subst he
 have hl3:X3.heap[S+1]?=some (.loop { lo with state:=.busy }):=(hC3.kept (S+1) (by show S+1 < (X.putObj (S+1) _).heap.size;rw [World.putObj_size];exact hlt) hnX).trans (World.putObj_heap_same hlt)
 have hC4:Core γ (handCtx κ fr L X (List.range fr.length)) r2 L3 (X3.putObj (S+1) (.loop lo)):=by
  refine hC3.reb (W1:=X) ⟨rfl,rfl,rfl,World.putObj_size.symm,fun b=>?_⟩ (Lq.put hγ hl3 rfl) fun k hk hx=>?_
  ·by_cases hb':b=S+1
   ·subst hb';exact .inr ⟨hγ,_,World.putObj_heap_same hlt,rfl⟩
   ·exact .inl (World.putObj_heap_other hb').symm
  ·by_cases hkS:k=S+1
   ·subst hkS
    rw [World.putObj_heap_same (Array.getElem?_eq_some_iff.1 hl3).1];exact h.recd.symm
   ·rw [World.putObj_heap_other hkS,hC3.kept k hk hx]
    exact World.putObj_heap_other hkS
 obtain ⟨b1,b2,b3,b4⟩:=h.core.back List.nodup_range hb hC4 hkd
 have r4:Rdy γ κ T S lo lo.tmps ds (killE (touched (List.range fr.length) r2) env) (back (List.range fr.length) fr r2) (backL (List.range fr.length) fr.length L L3) (X3.putObj (S+1) (.loop lo)):=
  ⟨b1,fun t=>b2.env (h.env t),fun x v hx=>b2.vr (h.cap x v hx),h.marks.tr h.core b2,World.putObj_heap_same (Array.getElem?_eq_some_iff.1 hl3).1,(b2.same S (by omega) (h.core.mark hS h.dfr rfl)).2.trans h.dfr⟩
 have hhand:∀ j v,κ.L j=some v→j < fr.length:=fun j v hj=>by
  obtain ⟨lb,q1,_⟩:=h.core.hand j v hj
  exact lt_of_get q1
 have fin:∀ (o1:Out),o1≠.normal→∃ v w',(Instr.endRound (S+1) (some o1.code)).run g.P X3=.ok v w'∧v=.bool false∧Rdy γ κ T S { lo with state:=.done,pending:=some o1.code } lo.tmps ds (killE (touched (List.range fr.length) r2) env) (back (List.range fr.length) fr r2) (backL (List.range fr.length) fr.length L L3) w':=fun o1 _=>by
  refine ⟨_,_,run_endRound (some o1.code) hl3,rfl,?_⟩
  have:=r4.put (lo':={ lo with state:=.done,pending:=some o1.code }) hS
  have e:(X3.putObj (S+1) (.loop lo)).putObj (S+1) (.loop { lo with state:=.done,pending:=some o1.code })=X3.putObj (S+1) (.loop { lo with state:=.done,pending:=some o1.code }):=by
   simp [World.putObj]
  rw [e] at this
  exact this
 cases o1 with
 | normal=>
  simp only at hr
  cases hr
  have:=run_endRound (P:=g.P) none hl3
  refine ⟨_,_,this,.inl ⟨rfl,rfl,?_⟩⟩
  have e:({ { lo with state:=.busy } with state:=if (none:Option Code).isNone then .ready else .done,pending:=none }:Loop)=lo:=Loop.ready_eq h1 h2
  rw [e]
  exact r4.head hhand
 | exit id=>
  simp only at hr
  cases hr
  obtain ⟨v,w',q1,rfl,q2⟩:=fin (.exit id) (by simp)
  exact ⟨_,w',q1,.inr ⟨by simp,rfl,_,q2⟩⟩
 | ret=>
  simp only at hr
  cases hr
  obtain ⟨v,w',q1,rfl,q2⟩:=fin .ret (by simp)
  exact ⟨_,w',q1,.inr ⟨by simp,rfl,_,q2⟩⟩
theorem range_ok {g:Cfg} {n dn:Nat} {lv:Option (List Nat)} {Aa B:Env→Fr→Option (Out×Env×Fr)} {op:Operand} {ps:Array Tmp} {asg body:Code} {a:Act} {gf:Nat} {lb:Array Value} {yss:List (List AV)} {wh:Bool} {o:Out} {env':Env} {fr':Fr}
  (hA:∀ env fr o env' fr',Aa env fr=some (o,env',fr')→∀ κ l dn a w,At γ κ n env fr a w→asg.wpIn (Fw (some l)) dn g.P (Post γ κ n o env' fr') a w)
  (hB:∀ env fr o env' fr',B env fr=some (o,env',fr')→∀ κ l dn a w,At γ κ n env fr a w→body.wpIn (Fw (some l)) dn g.P (Post γ κ n o env' fr') a w)
  (hps:∀ p∈ps.toList,p < n) (hg:a.eval op=.func (.func gf) #[] lb) (hseq:ISeq γ g.P gf lb T yss wh) (h:roundsE lv Aa B ps.toList wh yss env fr=some (o,env',fr'))
  (hfl:¬ κ.H κ.W.heap.size) (hd:Marks κ w a.defers) (hn:a.tmps.size=n) (hC:Core γ κ fr L w) (hV:∀ t,SR (MA κ.M fr L) L w (env t) (a.tmps.getD t undef)) (hcap:∀ x v,T x v→VR (MA κ.M fr L) w x v) :
  (Code.rangeFunc op ps asg body).wpIn (Fw none) dn g.P (Post γ κ n o env' fr') a w:=by
 refine wpIn_rangeFunc fun fn _=>?_
 obtain ⟨hk,hseq⟩:=hseq
 obtain ⟨lo,hlo⟩:∃ lo:Loop,lo={ state:=.ready,pending:=none,fn,tmps:=a.tmps,params:=ps,assign:=asg,body,defers:=w.heap.size }:=⟨_,rfl⟩
 have hsz:κ.W.heap.size≤w.heap.size:=hC.size
 have htms:lo.tmps=a.tmps:=by rw [hlo]
 have hbel:Below w.heap.size w ((w.alloc (.deferred (some []))).alloc (.loop lo)):=((Below.refl _ w).alloc (Nat.le_refl _) _).alloc (by simp) _
 have r1:Rdy γ κ T w.heap.size lo lo.tmps a.defers env fr L ((w.alloc (.deferred (some []))).alloc (.loop lo)):=by
  refine ⟨hC.later hbel,fun t=>?_,fun x v hx=>(hcap x v hx).later hbel,hd.below hbel,?_,?_⟩
  ·rw [htms];exact (hV t).later hbel
  ·have:=World.alloc_heap_new (w.alloc (.deferred (some []))) (.loop lo)
   rwa [World.size_alloc] at this
  ·exact (Below.heap_alloc _ _ _ (by simp)).trans (World.alloc_heap_new w _)
 have hend:∀ {L1:Ls} {lo':Loop} {e:Env} {r:Fr} {Y:World},Rdy γ κ T w.heap.size lo' lo.tmps a.defers e r L1 Y→At γ κ n e r { a with defers:=[{ target:=.collected w.heap.size,args:=#[] }]++a.defers } (Y.putObj (w.heap.size+1) (.loop { lo' with state:=.exhausted })):=fun {L1 lo' e r Y} hr=>by
  have h1:=hr.put (lo':={ lo' with state:=.exhausted }) hsz
  refine ⟨?_,hn,L1,h1.core,fun t=>?_⟩
  ·obtain ⟨⟨Ds,n1,n2,n3⟩,_⟩:=h1.marks
   obtain ⟨⟨Ds0,m1,m2,m3⟩,_⟩:=hd
   have hDs:Ds=Ds0:=by
    have:=n2.symm.trans m2
    exact List.map_inj_right (fun x y hxy=>by simpa using hxy) |>.1 this
   subst hDs
   refine ⟨⟨w.heap.size::Ds,List.nodup_cons.2 ⟨fun hm=>?_,n1⟩,?_,fun D hD=>?_⟩,fun hh=>absurd hh hfl⟩
   ·have:=(Array.getElem?_eq_some_iff.1 (m3 _ hm).2).1
    omega
   ·show _::a.defers=_
    rw [n2];rfl
   ·rcases List.mem_cons.1 hD with rfl|hD
    ·exact ⟨hsz,h1.dfr⟩
    ·exact n3 D hD
  ·have:=h1.env t
   rw [htms] at this
   exact this
 refine ⟨w.heap.size+1,[{ target:=.collected w.heap.size,args:=#[] }],(w.alloc (.deferred (some []))).alloc (.loop lo),{ target:=.fn (.func gf) lb,args:=#[.func (.yield (w.heap.size+1)) #[] #[]] },(w.alloc (.deferred (some []))).alloc (.loop lo),gf,#[.func (.yield (w.heap.size+1)) #[] #[]]++lb,(w.alloc (.deferred (some []))).alloc (.loop lo),?_,?_,fun _ _=>trivial,?_,(fun hh=>by cases hh),?_⟩
 ·rw [hlo];exact run_enterLoop_outer _ _ _ _ _
 ·simp only [resolve,hg]
  simp [go_sem]
 ·simp [invoke,go_sem,run_callFunc hk]
 ·refine (hseq (w.heap.size+1) (fun q A X=>∃ e r L1,roundsE lv Aa B ps.toList wh q e r=some (o,env',fr')∧A=MA κ.M r L1∧Rdy γ κ T w.heap.size lo lo.tmps a.defers e r L1 X)
   (fun X=>o≠.normal∧∃ L1,Rdy γ κ T w.heap.size { lo with state:=.done,pending:=some o.code } lo.tmps a.defers env' fr' L1 X) _ _ ?_ ?_ ?_ ?_ ?_ ⟨env,fr,L,h,rfl,r1⟩ (dn - 1)).mono ?_
  ·rintro q A X Y ⟨e,r,L1,q1,q2,q3⟩ hb
   exact ⟨e,r,L1,q1,q2,q3.below hb⟩
  ·rintro X Y ⟨q1,L1,q3⟩ hb
   exact ⟨q1,L1,q3.below hb⟩
  ·rintro q A X ⟨e,r,L1,q1,rfl,q3⟩
   exact ⟨q3.core.pure _ fun b hb=>⟨q3.core.fresh b (Nat.le_trans q3.core.size hb),fun ho=>by have:=(q3.core.own ho).1;omega⟩,q3.cap⟩
  ·rintro hwf A X ⟨e,r,L1,q1,_⟩
   subst hwf
   cases q1
  ·rintro y q A us X ⟨e,r,L1,q1,rfl,q3⟩ hus hv m
   unfold roundsE at q1
   have go:∀ {o1:Out} {e1:Env} {f1:Fr},roundE lv Aa B ps.toList y e r=some (o1,e1,f1)→YieldAt (Fw none) m g.P (w.heap.size+1) us X _:=fun {o1 e1 f1} hr=>
    round_ok (lo:=lo) (asg:=asg) (body:=body) hA hB (by rw [hlo];exact hps) hsz (by rw [hlo]) (by rw [hlo]) (by rw [hlo]) (by rw [hlo]) (by rw [hlo];exact hn) q3 (by rw [hlo];exact hr) hus hv m
   split at q1
   ·rename_i e1 f1 hr
    obtain ⟨fn,tmps,ag,bd,y1,y2⟩:=go hr
    refine ⟨fn,tmps,ag,bd,y1,y2.mono ?_⟩
    rintro en Y (⟨_,z1,L2,z2⟩|⟨z0,_⟩)
    ·exact .inl ⟨z1,_,_,_,_,q1,rfl,z2⟩
    ·exact absurd rfl z0
   ·rename_i hno
    obtain ⟨fn,tmps,ag,bd,y1,y2⟩:=go q1
    refine ⟨fn,tmps,ag,bd,y1,y2.mono ?_⟩
    rintro en Y (⟨z0,_⟩|⟨z0,z1,L2,z2⟩)
    ·subst z0;exact absurd q1 (hno _ _)
    ·exact .inr ⟨z1,z0,L2,z2⟩
  ·rintro en Y ⟨⟨v,rfl⟩,⟨hwh,A',e,r,L1,q1,_,q3⟩|⟨q1,L1,q3⟩⟩
   ·subst hwh
    cases q1
    have:=run_endLoop (P:=g.P) q3.recd (by rw [hlo];simp)
    have hp:lo.pending=none:=by rw [hlo]
    refine ⟨lo.pending,_,this,?_⟩
    split
    ·exact ⟨rfl,hend q3⟩
    ·rename_i hc
     rw [hp] at hc
     cases hc
   ·have:=run_endLoop (P:=g.P) q3.recd (by simp)
    refine ⟨some o.code,_,this,?_⟩
    cases o with
    | normal=>exact absurd rfl q1
    | exit id=>exact wpIn_exit ⟨rfl,hend q3⟩
    | ret=>exact wpIn_ret ⟨rfl,hend q3⟩
end
end Go.Proofs.YtjdhnoffoknlnaaGreatDoor
namespace Go.Proofs.YtjdhnoffoknlnaaGreatDoor
open Go.RowKit
section
variable {g:Cfg} {γ:Glob} {κ:Ctx} {C:CallF} {Lp:LoopF} {n:Nat}
theorem evC_ok (hmx:g.P.follows .mixedOrders=true) (hS:CallSnd g.P γ C) (hL:LoopSnd g γ Lp) (hQ:∀ (gf:Nat) (xs:List AV) (yss:List (List AV)) (wh:Bool),g.seq gf xs=some (yss,wh)→∀ (lb:Array Value),lb.size=xs.length→ISeq γ g.P gf lb (Cap xs lb) yss wh) {f:Nat}:∀ (c:Code) (env:Env) (fr:Fr) (o:Out) (env':Env) (fr':Fr),evC g f C Lp c env fr=some (o,env',fr')→wfC g f n c=true→∀ (κ:Ctx) (rd:Option Nat) (dn:Nat) (a:Act) (w:World),((rd=none∧¬ κ.H κ.W.heap.size)∨noRF c=true)→At γ κ n env fr a w→c.wpIn (Fw rd) dn g.P (Post γ κ n o env' fr') a w:=by
 intro c
 induction c with
 | skip=>intro env fr o env' fr' h _ κ rd dn a w hrd hA;unfold evC at h;cases h;exact wpIn_skip ⟨rfl,hA⟩
 | exit id=>intro env fr o env' fr' h _ κ rd dn a w hrd hA;unfold evC at h;cases h;exact wpIn_exit ⟨rfl,hA⟩
 | ret=>intro env fr o env' fr' h _ κ rd dn a w hrd hA;unfold evC at h;cases h;exact wpIn_ret ⟨rfl,hA⟩
 | region id ops draw=>
  intro env fr o env' fr' h hwf κ rd dn a w hrd hA
  unfold evC at h
  unfold wfC at hwf
  rw [Bool.and_eq_true] at hwf
  obtain ⟨h1,h2,L,hC,hV⟩:=hA
  split at h
  ·rename_i e r he
   cases h
   unfold evReg at he
   cases draw with
   | false=>
    simp only at he
    split at he
    ·have:=ops_text (rd:=rd) (dn:=dn) hS (ops:=ops) (n:=n) (κ:=κ) (Q:=Post γ κ n .normal env' fr') (env':=env') (fr':=fr') hwf.1 (fun L a w hd hn hC hV=>⟨rfl,hd,hn,L,hC,hV⟩) ops.toList 0 env fr L a w (fun o ho=>ho) he h1 h2 hC hV
     exact wpIn_region_lit (l:=ops.toList) (by simpa using this)
    ·rename_i k _ _
     unfold evRegB at he
     split at he
     ·cases he
     ·rename_i e1 r1 hpre
      split at he
      ·cases he
      ·rename_i o l hl
       split at he
       ·cases he
       ·rename_i hg
        split at he
        ·cases he
        ·rename_i x r2 hB
         have hmem:∀ o'∈o::l,o'∈ops.toList:=fun o' ho'=>List.mem_of_mem_drop (by rw [hl];exact ho')
         have key:=ops_pre (rd:=rd) (dn:=dn) hS (ops:=ops) (n:=n) (κ:=κ) (Q:=Post γ κ n .normal env' fr') (env':=e1) (fr':=r1) (l2:=o::l) hwf.1 (fun L a w hd hn hC hV=>by
          unfold wpListIn
          rw [if_pos (by simp [Region.wanted,hg])]
          refine (build_ok hB κ L a w hC (fun y _=>evE_ok hV y)).wpIn fun v w' ⟨L',hT,hC',hv⟩=>?_
          refine ops_text (rd:=rd) (dn:=dn) hS (ops:=ops) (n:=n) (κ:=κ) (Q:=Post γ κ n .normal env' fr') (env':=env') (fr':=fr') hwf.1 (fun L a w hd hn hC hV=>⟨rfl,hd,hn,L,hC,hV⟩) l (k+1) _ _ L' _ _ (fun o' ho'=>hmem o' (by simp [ho'])) he (by rw [put_defers];exact hd.tr hC hT) (by rw [put_size,hn]) hC' ?_
          exact put_rel (fun t=>hT.env (hV t)) hv fun q hq=>by rw [hn];exact dst_lt hwf.1 (hmem o (by simp)) hq) (ops.toList.take k) 0 env fr L a w (fun o' ho'=>List.mem_of_mem_take ho') hpre h1 h2 hC hV
         rw [← hl,List.take_append_drop] at key
         exact wpIn_region_lit (l:=ops.toList) (by simpa using key)
   | true=>
    match hm:effK (g.eff f id) with
    | 0=>
     have hwf2:=hwf.2
     simp only [hm] at he hwf2
     obtain ⟨E,F,a1,a2,a3,a4,a5⟩:=ops_trace ops.toList 0 env fr he
     have hE:Steps g C ops (g.eff f id) E F:=fun i o ho=>by
      have:=a3 i o (by rw [Array.getElem?_toList];exact ho)
      rwa [Nat.zero_add] at this
     rw [Array.length_toList] at a4 a5
     refine wpIn_region_any hmx (wpAny_mid (n:=n) (κ:=κ) (E:=E) (F:=F) hS (drawOk_spec hwf2) hwf.1 hE (fun L a w hd hn hC hV=>⟨rfl,hd,hn,L,by rw [← a5];exact hC,by rw [← a5,← a4];exact hV⟩) _ 0 L _ a _ ?_ (Mid.start h1 h2 ?_ fun t=>?_))
     ·unfold un'
      exact Nat.le_trans (List.countP_le_length) (by simp)
     ·rw [a2];exact hC.later (Below.drew (Below.refl _ _))
     ·rw [a1,a2];exact (hV t).later (Below.drew (Below.refl _ _))
    | 1=>
     have hwf2:=hwf.2
     simp only [hm] at he hwf2
     obtain ⟨E,F,a1,a2,a3,a4,a5⟩:=opsF_trace ops.toList 0 env fr he
     have hE:StepsF g C ops (g.eff f id) E F:=fun i o ho=>by
      have:=a3 i o (by rw [Array.getElem?_toList];exact ho)
      rwa [Nat.zero_add] at this
     rw [Array.length_toList] at a4 a5
     refine wpIn_region_any hmx (wpAny_midF (n:=n) (κ:=κ) (E:=E) (F:=F) hS (drawOkF_spec hwf2) hwf.1 hE (fun L a w hd hn hC hV=>⟨rfl,hd,hn,L,by rw [← a5];exact hC,by rw [← a5,← a4];exact hV⟩) _ 0 L _ a _ ?_ (MidF.start h1 h2 ?_ fun t=>?_))
     ·unfold un'
      exact Nat.le_trans (List.countP_le_length) (by simp)
     ·rw [a2];exact hC.later (Below.drew (Below.refl _ _))
     ·rw [a1,a2];exact (hV t).later (Below.drew (Below.refl _ _))
    | 3=>simp only [hm] at he;cases he
    | 4=>
     have hwf2:=hwf.2
     simp only [hm] at he hwf2
     refine wpIn_region_any hmx (regD_ok (n:=n) (κ:=κ) (L:=L) hS hwf2 hwf.1 he (fun L a w hd hn hC hV=>⟨rfl,hd,hn,L,hC,hV⟩) h1 h2 (hC.later (Below.drew (Below.refl _ _))) fun t=>(hV t).later (Below.drew (Below.refl _ _)))
    | 2=>simp only [hm] at he;cases he
    | 5=>simp only [hm] at he;cases he
    | n+6=>simp only [hm] at he;cases he
  ·cases h
 | seq x y ihx ihy=>
  intro env fr o env' fr' h hwf κ rd dn a w hrd hA
  unfold evC at h
  unfold wfC at hwf
  rw [Bool.and_eq_true] at hwf
  have hrd1:(rd=none∧¬ κ.H κ.W.heap.size)∨noRF x=true:=hrd.imp (fun q=>q) fun q=>by unfold noRF at q;rw [Bool.and_eq_true] at q;exact q.1
  have hrd2:(rd=none∧¬ κ.H κ.W.heap.size)∨noRF y=true:=hrd.imp (fun q=>q) fun q=>by unfold noRF at q;rw [Bool.and_eq_true] at q;exact q.2
  split at h
  ·rename_i e r hx
   refine wpIn_seq (wpIn_mono (ihx _ _ _ _ _ hx hwf.1 κ rd dn a w hrd1 hA) fun ex a' w' ⟨he,hA'⟩=>?_)
   subst he
   exact ihy _ _ _ _ _ h hwf.2 κ rd dn a' w' hrd2 hA'
  ·rename_i hno
   refine wpIn_seq (wpIn_mono (ihx _ _ _ _ _ h hwf.1 κ rd dn a w hrd1 hA) fun ex a' w' ⟨he,hA'⟩=>?_)
   subst he
   cases o with
   | normal=>exact absurd h (hno _ _)
   | exit id=>exact ⟨rfl,hA'⟩
   | ret=>exact ⟨rfl,hA'⟩
 | cond c x y ihx ihy=>
  intro env fr o env' fr' h hwf κ rd dn a w hrd hA
  unfold evC at h
  unfold wfC at hwf
  rw [Bool.and_eq_true] at hwf
  have hA':=hA
  have hrd1:(rd=none∧¬ κ.H κ.W.heap.size)∨noRF x=true:=hrd.imp (fun q=>q) fun q=>by unfold noRF at q;rw [Bool.and_eq_true] at q;exact q.1
  have hrd2:(rd=none∧¬ κ.H κ.W.heap.size)∨noRF y=true:=hrd.imp (fun q=>q) fun q=>by unfold noRF at q;rw [Bool.and_eq_true] at q;exact q.2
  obtain ⟨_,_,L,hC,hV⟩:=hA'
  have hc:=rd_ok (evE_ok hV c)
  split at h
  ·rename_i hr
   rw [hr] at hc
   exact wpIn_cond_split (inv_bool hc) (fun _=>ihx _ _ _ _ _ h hwf.1 κ rd dn a w hrd1 hA) (fun e=>by cases e)
  ·rename_i hr
   rw [hr] at hc
   exact wpIn_cond_split (inv_bool hc) (fun e=>by cases e) (fun _=>ihy _ _ _ _ _ h hwf.2 κ rd dn a w hrd2 hA)
  ·cases h
 | block id b ih=>
  intro env fr o env' fr' h hwf κ rd dn a w hrd hA
  unfold evC at h
  unfold wfC at hwf
  split at h
  ·rename_i i e r hx
   refine wpIn_block (wpIn_mono (ih _ _ _ _ _ hx hwf κ rd dn a w (hrd.imp (fun q=>q) fun q=>by unfold noRF at q;exact q) hA) fun ex a' w' ⟨he,hA'⟩=>?_)
   subst he
   simp only [Out.toExit,Exit.inBlock]
   split at h
   ·rename_i hi
    cases h
    rw [if_pos (by simpa using hi)]
    exact ⟨rfl,hA'⟩
   ·rename_i hi
    cases h
    rw [if_neg (by intro e;subst e;simp at hi)]
    exact ⟨rfl,hA'⟩
  ·rename_i hno
   refine wpIn_block (wpIn_mono (ih _ _ _ _ _ h hwf κ rd dn a w (hrd.imp (fun q=>q) fun q=>by unfold noRF at q;exact q) hA) fun ex a' w' ⟨he,hA'⟩=>?_)
   subst he
   cases o with
   | normal=>exact ⟨rfl,hA'⟩
   | exit i=>exact absurd h (hno _ _ _)
   | ret=>exact ⟨rfl,hA'⟩
 | loop b ih=>
  intro env fr o env' fr' h hwf κ rd dn a w hrd hA
  unfold evC at h
  unfold wfC at hwf
  have h1:=At.own (env:=env) (fr:=fr) (g.own f (blockId b)) env fr hA
  exact hL _ _ _ _ _ _ _ h n hwf κ rd dn a w (hrd.imp (fun q=>q) fun q=>by unfold noRF at q;exact q) (h1.head h1.handed)
 | rangeFunc op ps asg body iha ihb=>
  intro env fr o env' fr' h hwf κ rd dn a w hrd hA
  obtain ⟨rfl,hfl⟩:rd=none∧¬ κ.H κ.W.heap.size:=hrd.resolve_right (by unfold noRF;simp)
  unfold evC at h
  unfold wfC at hwf
  rw [Bool.and_eq_true,Bool.and_eq_true,Bool.and_eq_true,Bool.and_eq_true] at hwf
  obtain ⟨⟨⟨⟨w1,w2⟩,w3⟩,w4⟩,w5⟩:=hwf
  split at h
  ·rename_i gf bs hcal
   split at h
   ·cases h
   ·rename_i cs hcs
    split at h
    ·cases h
    ·rename_i yss wh hsq
     obtain ⟨d1,d2,L,hC,hV⟩:=hA
     obtain ⟨fs,lb,hv,hal,hbl,har,hbr⟩:=calleeS_ok hcal (rd_ok (evE_ok hV op))
     obtain ⟨hC1,hT1,hM1⟩:=hC.frz (rchs fr bs)
     obtain ⟨p1,p2⟩:=toAVs_ok hC hM1 _ _ hcs (frz_free hC)
     have hfs:fs=#[]:=Array.eq_empty_of_size_eq_zero (by rw [← hal];rfl)
     subst hfs
     refine range_ok (fun env fr o env' fr' h κ l dn a w hA=>iha _ _ _ _ _ h w1 κ (some l) dn a w (.inr w3) hA) (fun env fr o env' fr' h κ l dn a w hA=>ihb _ _ _ _ _ h w2 κ (some l) dn a w (.inr w4) hA) (fun p hp=>by simpa [Nat.blt_eq] using List.all_eq_true.1 w5 p hp) hv (hQ _ _ _ _ hsq lb (by rw [← hbl,p1])) (T:=Cap cs lb) h hfl (d1.tr hC hT1) d2 hC1 (fun t=>hT1.sr (hV t)) fun x v ⟨j,hx,hu⟩=>?_
     obtain ⟨s,hs⟩:=get_of_lt (xs:=bs) (k:=j) (by rw [p1];exact lt_of_get hx)
     exact p2 j s x v hs hx (hbr j s v hs hu)
  ·cases h
 | _=>intro env fr o env' fr' h;unfold evC at h;cases h
theorem loadS_ptr {P:Program} {A:Nat→Prop} {L:Ls} {w:World} {fr:Fr} {t:Nat} {s x:SV} {v:Value} (h:loadS P fr t s=some x) (hs:SR A L w s v):∃ a,v=.pointer (some a):=by
 unfold loadS at h
 split at h
 ·cases h
 ·split at h
  ·obtain ⟨b,o,us,rfl,_⟩:=inv_tp hs;exact ⟨_,rfl⟩
  ·obtain ⟨b,_,rfl⟩:=inv_lp hs;exact ⟨_,rfl⟩
  ·obtain ⟨b,m,c,_,rfl⟩:=inv_le hs;exact ⟨_,rfl⟩
  ·obtain ⟨_,b,m,c,_,_,rfl⟩:=inv_lq hs;exact ⟨_,rfl⟩
  ·cases h
def resV (tmps:Array Value):ResultVar→Sem Value
 | .tmp t=>pure (tmps.getD t undef)
 | .cell a t=>do loadVar t (← asAddr (tmps.getD a undef))
theorem results_v (fn:Func) (tmps:Array Value):results fn tmps=(do let vs ← fn.results.mapM (resV tmps);pure (if h:vs.size=1 then vs[0] else .tuple vs)):=by
 unfold results
 congr 2
theorem resV_run {P:Program} {γ:Glob} {κ:Ctx} {fr:Fr} {L:Ls} {w:World} {env:Env} {tmps:Array Value} (hC:Core γ κ fr L w) (hV:∀ t,SR (MA κ.M fr L) L w (env t) (tmps.getD t undef)) {r:ResultVar} {q:Nat×Option Nat} {x:SV} (hq:resTmps [r]=[q]) (hx:outOne P env fr q=some x):∃ v,(resV tmps r).run P w=.ok v w∧SR (MA κ.M fr L) L w x v:=by
 cases r with
 | tmp t=>unfold resTmps resTmps at hq;cases hq;cases hx;exact ⟨_,rfl,hV t⟩
 | cell a T=>
  unfold resTmps resTmps at hq
  cases hq
  have hx:loadS P fr T (un (env a))=some x:=hx
  have ha:=un_ok (hV a)
  obtain ⟨ad,hp⟩:=loadS_ptr hx ha
  obtain ⟨u,h1,h2⟩:=loadS_ok hC hx ha
  refine ⟨u,?_,h2⟩
  rw [hp] at h1
  show ((asAddr (tmps.getD a undef)) >>= fun d=>loadVar T d).run P w=_
  rw [hp]
  simpa [Instr.loadAt,Instr.sureAddr,asAddr,Sem.run_bind] using h1
theorem results_run {P:Program} {γ:Glob} {κ:Ctx} {fr:Fr} {L:Ls} {w:World} {env:Env} {fn:Func} {tmps:Array Value} {x:SV} (hC:Core γ κ fr L w) (hV:∀ t,SR (MA κ.M fr L) L w (env t) (tmps.getD t undef)) (h:outOf P env fr (resTmps fn.results.toList)=some x) (hts:fn.results.size≤4) :
  ∃ v,(results fn tmps).run P w=.ok v w∧SR (MA κ.M fr L) L w x v:=by
 have key:∀ (l:List ResultVar) (xs:List SV),outsOf P env fr (resTmps l)=some xs→∃ vs:List Value,vs.length=l.length∧xs.length=l.length∧∀ (j:Nat) (r:ResultVar) (x:SV) (v:Value),l[j]?=some r→xs[j]?=some x→vs[j]?=some v→(resV tmps r).run P w=.ok v w∧SR (MA κ.M fr L) L w x v:=fun l=>by
  induction l with
  | nil=>intro xs h;unfold resTmps outsOf at h;cases h;exact ⟨[],rfl,rfl,fun j r x v hr=>by simp at hr⟩
  | cons r l ih=>
   intro xs h
   have hc:∃ q,resTmps [r]=[q]∧resTmps (r::l)=q::resTmps l:=by cases r <;> exact ⟨_,rfl,rfl⟩
   obtain ⟨q,hq,hc⟩:=hc
   rw [hc] at h
   unfold outsOf at h
   split at h
   ·cases h
   ·rename_i x0 hx0
    split at h
    ·cases h
    ·rename_i xs' hxs
     cases h
     obtain ⟨v0,e1,e2⟩:=resV_run hC hV hq hx0
     obtain ⟨vs,f1,f2,f3⟩:=ih _ hxs
     refine ⟨v0::vs,by simp [f1],by simp [f2],fun j r' x v hr hx hv=>?_⟩
     cases j with
     | zero=>cases hr;cases hx;cases hv;exact ⟨e1,e2⟩
     | succ j=>exact f3 j r' x v hr hx hv
 unfold outOf at h
 have hsz:fn.results.toList.length≤4:=by simpa using hts
 have hra:fn.results=fn.results.toList.toArray:=by simp
 rw [results_v]
 generalize fn.results.toList=l at *
 rw [hra]
 have tup:∀ (xs:List SV) (vs:List Value),vs.length=xs.length→(∀ (j:Nat) (x:SV) (v:Value),xs[j]?=some x→vs[j]?=some v→SR (MA κ.M fr L) L w x v)→SR (MA κ.M fr L) L w (.tup xs) (.tuple vs.toArray):=fun xs vs hl hr=>.tup _ _ (by simpa using hl) fun j x u hx hu=>hr j x u hx (by simpa using hu)
 split at h
 ·cases h
 ·rename_i x0 hx
  cases h
  obtain ⟨vs,f1,f2,f3⟩:=key l _ hx
  match l,vs,f1,f2,f3 with
  | [r],[v],_,_,f3=>
   obtain ⟨g1,g2⟩:=f3 0 r x v rfl rfl rfl
   exact ⟨v,by simp [Sem.run_bind,g1],g2⟩
 ·rename_i xs hx1 hx
  cases h
  obtain ⟨vs,f1,f2,f3⟩:=key l _ hx
  match l,vs,xs,f1,f2,f3,hsz with
  | [],[],[],_,_,_,_=>exact ⟨.tuple #[],by simp [Sem.run_bind],tup [] [] rfl fun j x v hx=>by simp at hx⟩
  | [r],[v],[x],_,_,f3,_=>exact absurd rfl (hx1 x)
  | [r0,r1],[v0,v1],[x0,x1],_,_,f3,_=>
   have a0:=f3 0 r0 x0 v0 rfl rfl rfl
   have a1:=f3 1 r1 x1 v1 rfl rfl rfl
   exact ⟨.tuple #[v0,v1],by simp [Sem.run_bind,a0.1,a1.1],tup [x0,x1] [v0,v1] rfl fun j x v hx hv=>by
    match j,hx,hv with
    | 0,hx,hv=>cases hx;cases hv;exact a0.2
    | 1,hx,hv=>cases hx;cases hv;exact a1.2⟩
  | [r0,r1,r2],[v0,v1,v2],[x0,x1,x2],_,_,f3,_=>
   have a0:=f3 0 r0 x0 v0 rfl rfl rfl
   have a1:=f3 1 r1 x1 v1 rfl rfl rfl
   have a2:=f3 2 r2 x2 v2 rfl rfl rfl
   exact ⟨.tuple #[v0,v1,v2],by simp [Sem.run_bind,a0.1,a1.1,a2.1],tup [x0,x1,x2] [v0,v1,v2] rfl fun j x v hx hv=>by
    match j,hx,hv with
    | 0,hx,hv=>cases hx;cases hv;exact a0.2
    | 1,hx,hv=>cases hx;cases hv;exact a1.2
    | 2,hx,hv=>cases hx;cases hv;exact a2.2⟩
  | [r0,r1,r2,r3],[v0,v1,v2,v3],[x0,x1,x2,x3],_,_,f3,_=>
   have a0:=f3 0 r0 x0 v0 rfl rfl rfl
   have a1:=f3 1 r1 x1 v1 rfl rfl rfl
   have a2:=f3 2 r2 x2 v2 rfl rfl rfl
   have a3:=f3 3 r3 x3 v3 rfl rfl rfl
   exact ⟨.tuple #[v0,v1,v2,v3],by simp [Sem.run_bind,a0.1,a1.1,a2.1,a3.1],tup [x0,x1,x2,x3] [v0,v1,v2,v3] rfl fun j x v hx hv=>by
    match j,hx,hv with
    | 0,hx,hv=>cases hx;cases hv;exact a0.2
    | 1,hx,hv=>cases hx;cases hv;exact a1.2
    | 2,hx,hv=>cases hx;cases hv;exact a2.2
    | 3,hx,hv=>cases hx;cases hv;exact a3.2⟩
theorem tre_ok {ex:Fr} {L:Ls} {w:World} {r:SV} {x:AV} {v:Value} (hC:Core γ κ ex L w) (hno:∀ (j:Nat) (v:Value),κ.L j=some v→False) (hx:toAV ex deep r=some x) (hr:SR (MA κ.M ex L) L w r v):∃ L',Core γ κ [] L' w∧SR (MA κ.M [] L') L' w (.t x) v:=by
 have hM:∀ b,κ.M b→MA κ.M [] (fun _=>none) b:=fun b hb=>⟨hb,fun ⟨i,v,lb,h,_⟩=>by cases h⟩
 refine ⟨fun _=>none,?_,.t _ _ ((toAV_ok hC (A:=MA κ.M [] (fun _=>none)) (fun b hb=>hM b hb.1) deep).1 r x v hx (fun i _ u b hu hub=>?_) hr)⟩
 ·exact {
   glob:=hC.glob
   gn:=hC.gn
   gx:=hC.gx
   fresh:=hC.fresh
   os:=hC.os
   tape:=hC.tape
   output:=hC.output
   size:=hC.size
   kept:=hC.kept
   lim:=fun i v h=>by cases h
   new:=fun i v b lb h=>by cases h
   dis:=fun i j v v' b h=>by cases h
   hand:=fun j v h=>(hno j v h).elim
   blk:=fun i lb h=>by cases h }
 ·have hil:=hC.lim i u hu
  exact hM b (hC.new i u b ex[i] hu hub (List.getElem?_eq_getElem hil)).2.1
theorem treT_ok {b:Bool} {m:Nat} {o:Option (SV×Fr)} {r:SV} {fr':Fr} (h:treT b m o=some (r,fr')):o=some (r,fr')∨(m=0∧fr'=[]∧∃ r0 ex x,o=some (r0,ex)∧toAV ex deep r0=some x∧r=.t x):=by
 unfold treT at h
 split at h
 ·exact .inl h
 ·split at h
  ·cases h
  ·rename_i r0 ex
   split at h
   ·split at h
    ·rename_i x hx
     cases h
     exact .inr ⟨rfl,rfl,r0,ex,x,rfl,hx,rfl⟩
    ·exact .inl h
   ·exact .inl h
theorem Core.limH {fr:Fr} {L:Ls} {w:World} (h:Core γ κ fr L w):Core γ ⟨κ.M,κ.X,fun b=>κ.H b∧b < κ.W.heap.size,κ.W,κ.L⟩ fr L w where
 glob:=h.glob
 gn:=h.gn
 gx:=h.gx
 fresh:=h.fresh
 os:=h.os
 tape:=h.tape
 output:=h.output
 size:=h.size
 kept:=h.kept
 lim:=h.lim
 new:=fun i v b lb h1 h2 h3=>by
  obtain ⟨q1,q2,q3,q4⟩:=h.new i v b lb h1 h2 h3
  refine ⟨q1,q2,?_,q4⟩
  rcases Nat.lt_or_ge b κ.W.heap.size with hl|hl
  ·exact q3.imp (fun q=>q) fun q=>⟨q,hl⟩
  ·exact .inl hl
 dis:=h.dis
 hand:=h.hand
 blk:=h.blk
theorem Core.unlimH {fr:Fr} {L:Ls} {w:World} (h:Core γ ⟨κ.M,κ.X,fun b=>κ.H b∧b < κ.W.heap.size,κ.W,κ.L⟩ fr L w):Core γ κ fr L w where
 glob:=h.glob
 gn:=h.gn
 gx:=h.gx
 fresh:=h.fresh
 os:=h.os
 tape:=h.tape
 output:=h.output
 size:=h.size
 kept:=h.kept
 lim:=h.lim
 new:=fun i v b lb h1 h2 h3=>by
  obtain ⟨q1,q2,q3,q4⟩:=h.new i v b lb h1 h2 h3
  exact ⟨q1,q2,q3.imp (fun q=>q) fun q=>q.1,q4⟩
 dis:=h.dis
 hand:=h.hand
 blk:=h.blk
theorem call_lim {P:Program} {f:Nat} {args:List SV} {fr:Fr} {r:SV} {fr':Fr} (h:∀ (κ:Ctx) (w:World) (us:Array Value),¬ κ.H κ.W.heap.size→Core γ κ fr κ.L w→κ.W=w→us.size=args.length→(∀ (j:Nat) (x:SV) (u:Value),args[j]?=some x→us[j]?=some u→SR (MA κ.M fr κ.L) κ.L w x u)→
  Calls P f us w fun e w'=>∃ v L',e=.returned v∧Core γ κ fr' L' w'∧SR (MA κ.M fr' L') L' w' r v):∀ (κ:Ctx) (w:World) (us:Array Value),Core γ κ fr κ.L w→κ.W=w→us.size=args.length→(∀ (j:Nat) (x:SV) (u:Value),args[j]?=some x→us[j]?=some u→SR (MA κ.M fr κ.L) κ.L w x u)→
  Calls P f us w fun e w'=>∃ v L',e=.returned v∧Core γ κ fr' L' w'∧SR (MA κ.M fr' L') L' w' r v:=fun κ w us hC hw hus hr=>
 (h ⟨κ.M,κ.X,fun b=>κ.H b∧b < κ.W.heap.size,κ.W,κ.L⟩ w us (fun h=>absurd h.2 (Nat.lt_irrefl _)) hC.limH hw hus hr).mono fun _ _ ⟨v,L',h1,h2,h3⟩=>⟨v,L',h1,h2.unlimH,h3⟩
theorem call_step (hW:Wf g γ) {m:Nat} (hS:CallSnd g.P γ (callN g m)) (hL:LoopSnd g γ (loopN g m)):CallSnd g.P γ (callN g (m+1)):=fun f args fr r fr' h=>by
 unfold callN at h
 split at h
 ·-- a contract
  split at h
  ·rename_i xs hxs
   obtain ⟨hk,hc⟩:=hW.ext f xs r fr' h
   refine ⟨hk,fun κ w us hC hw hus hr=>?_⟩
   obtain ⟨p1,p2⟩:=pursN_ok (A:=MA κ.M [] κ.L) (L:=κ.L) (w:=w) hxs
   exact hc κ w us hC hw (by rw [hus,p1]) fun j x u hx hu=>by
    obtain ⟨s,hs⟩:=get_of_lt (xs:=args) (k:=j) (by rw [p1];exact lt_of_get hx)
    exact p2 j s x u hs hx (hr j s u hs hu)
  ·exact hW.exh _ _ _ _ _ h
 ·rename_i hok
  split at h
  ·cases h
  ·rename_i fn hfn
   split at h
   ·rename_i c hb
    have hwf:=hW.fns f hok
    unfold wfF at hwf
    rw [hfn] at hwf
    simp only [hb] at hwf
    rw [Bool.and_eq_true,Bool.and_eq_true,Bool.not_eq_true',Nat.ble_eq] at hwf
    obtain ⟨⟨hwc,hnm⟩,hrs⟩:=hwf
    split at h
    ·cases h
    ·rename_i hal
     rw [Nat.ble_eq] at hal
     refine ⟨⟨fn,hfn,hnm,by rw [hb];rfl⟩,call_lim fun κ w us hfl hC hw hus hr=>callsIn_wide.1 (callsIn_of_wp_marks (F:=Fence.wide) (n:=0) hfn hb trivial ?_)⟩
     have hA:At γ κ fn.ntmps (ofArgs args) fr { tmps:=us++Array.replicate (fn.ntmps - us.size) undef,defers:=[] } w:=by
      refine ⟨Marks.nil,by simp [hus];omega,κ.L,hC,fun t=>?_⟩
      show SR _ _ w (ofArgs args t) _
      unfold ofArgs
      cases hx:args[t]? with
      | none=>exact .dead _
      | some x=>
       have ht:t < us.size:=by rw [hus];exact lt_of_get hx
       have h1:=hr t x us[t] hx (Array.getElem?_eq_getElem ht)
       show SR _ _ w x ((us++_).getD t undef)
       rw [Array.getD_eq_getD_getElem?,Array.getElem?_append_left ht,Array.getElem?_eq_getElem ht]
       exact h1
     have done:∀ {o:Out} {e:Env} {q:Fr},evC g f (callN g m) (loopN g m) c (ofArgs args) fr=some (o,e,q)→(o=.normal∨o=.ret)→treT (g.tre f) fr.length (finO fr.length (outOf g.P e q (resTmps fn.results.toList)) q)=some (r,fr')→Code.wpIn Fence.wide 0 g.P c (bodyPostM Fence.wide 0 g.P fn fun e w'=>∃ v L',e=.returned v∧Core γ κ fr' L' w'∧SR (MA κ.M fr' L') L' w' r v) { tmps:=us++Array.replicate (fn.ntmps - us.size) undef,defers:=[] } w:=fun {o e q} hev ho hfin=>by
      refine wpIn_mono (evC_ok hW.mixed hS hL hW.seq c _ _ _ _ _ hev hwc κ none 0 _ w (.inl ⟨rfl,hfl⟩) hA) fun ex a w' ⟨he,⟨⟨Ds,n1,n2,n3⟩,_⟩,h3,L,h4,h5⟩=>?_
      have key:LeavesInM Fence.wide 0 g.P fn a.tmps (fun e w'=>∃ v L',e=.returned v∧Core γ κ fr' L' w'∧SR (MA κ.M fr' L') L' w' r v) a.defers .returning w':=by
       rw [n2]
       refine leaves_marks Ds w' n1 n3 fun w'' hq=>?_
       rcases treT_ok hfin with hf2|⟨hm0,rfl,r1,ex,x,hf2,htx,rfl⟩
       ·unfold finO at hf2
        split at hf2
        ·rename_i r0 hr0
         obtain ⟨v,hv,hsr⟩:=results_run (h4.lq hq) (fun t=>(h5 t).lq hq) hr0 hrs
         obtain ⟨L',f1,f2⟩:=fin_ok (h4.lq hq) (fun j u hj=>hC.lim j u hj) hf2 hsr
         exact ⟨v,hv,v,L',rfl,f1,f2⟩
        ·cases hf2
       ·unfold finO at hf2
        split at hf2
        ·rename_i r0 hr0
         obtain ⟨v,hv,hsr⟩:=results_run (h4.lq hq) (fun t=>(h5 t).lq hq) hr0 hrs
         obtain ⟨L',f1,f2⟩:=fin_ok (h4.lq hq) (fun j u hj=>hC.lim j u hj) hf2 hsr
         obtain ⟨L2,f3,f4⟩:=tre_ok f1 (fun j u hj=>by have:=hC.lim j u hj;omega) htx f2
         exact ⟨v,hv,v,L2,rfl,f3,f4⟩
        ·cases hf2
      rcases ho with rfl|rfl <;> (subst he;exact key)
     split at h
     ·rename_i e q hev;exact done hev (.inl rfl) h
     ·rename_i e q hev;exact done hev (.inr rfl) h
     ·cases h
   ·cases h
theorem wpIn_loop_ghost {F:Fence} {dn:Nat} {P:Program} {Q:Exit→Act→World→Prop} {a:Act} {w:World} {c:Code} (I:Nat→Act→World→Prop) (n₀:Nat) (h₀:I n₀ a w)
  (round:∀ n a w,I n a w→c.wpIn F dn P (Exit.then (fun a' w'=>∃ n',n' < n∧I n' a' w') Q) a w):(Code.loop c).wpIn F dn P Q a w:=by
 refine wpIn_loop (fun a w=>∃ n,I n a w) (fun a w=>leastOf (fun n=>I n a w)) ⟨n₀,h₀⟩ ?_
 intro a w hI
 refine wpIn_mono (round _ a w (leastOf_spec hI).1) ?_
 intro e a' w' hq
 cases e with
 | normal=>
  obtain ⟨n',hlt,hI'⟩:=hq
  exact show (∃ n,I n a' w')∧leastOf (fun n=>I n a' w') < leastOf (fun n=>I n a w) from ⟨⟨n',hI'⟩,Nat.lt_of_le_of_lt ((leastOf_spec ⟨n',hI'⟩).2 n' hI') hlt⟩
 | exit id=>exact hq
 | goto l=>exact hq
 | ret=>exact hq
 | panic ch=>exact hq
 | outgrown=>exact hq
theorem loop_step (hW:Wf g γ) {m:Nat} (hS:∀ k,k < m→CallSnd g.P γ (callN g k)) (hL:∀ k,k < m→LoopSnd g γ (loopN g k)):LoopSnd g γ (loopN g m):=fun f b env fr o env' fr' h n hwf κ rd dn a w hrd hA=>by
 refine wpIn_loop_ghost (fun k a w=>k≤m∧∃ env fr,loopN g k f b env fr=some (o,env',fr')∧At γ κ n env fr a w) m ⟨Nat.le_refl _,env,fr,h,hA⟩ fun k a w ⟨hk,env,fr,h,hA⟩=>?_
 cases k with
 | zero=>unfold loopN at h;cases h
 | succ k=>
  unfold loopN at h
  split at h
  ·rename_i e r hev
   refine wpIn_mono (evC_ok hW.mixed (hS k (by omega)) (hL k (by omega)) hW.seq b _ _ _ _ _ hev hwf κ rd dn a w hrd hA) fun ex a' w' ⟨he,hA'⟩=>?_
   subst he
   exact ⟨k,Nat.lt_succ_self k,by omega,_,_,h,hA'.head hA.handed⟩
  ·rename_i hno
   refine wpIn_mono (evC_ok hW.mixed (hS k (by omega)) (hL k (by omega)) hW.seq b _ _ _ _ _ h hwf κ rd dn a w hrd hA) fun ex a' w' ⟨he,hA'⟩=>?_
   subst he
   cases o with
   | normal=>exact absurd h (hno _ _)
   | exit id=>exact ⟨rfl,hA'⟩
   | ret=>exact ⟨rfl,hA'⟩
theorem sound (hW:Wf g γ):∀ m,CallSnd g.P γ (callN g m)∧LoopSnd g γ (loopN g m):=fun m=>by
 induction m using Nat.strongRecOn with
 | _ m ih=>
  have hl:=loop_step hW (fun k hk=>(ih k hk).1) (fun k hk=>(ih k hk).2)
  cases m with
  | zero=>exact ⟨(fun f args fr r fr' h=>by unfold callN at h;cases h),hl⟩
  | succ m=>exact ⟨call_step hW (ih m (Nat.lt_succ_self m)).1 (ih m (Nat.lt_succ_self m)).2,hl⟩
end
end Go.Proofs.YtjdhnoffoknlnaaGreatDoor
namespace Go.Proofs.YtjdhnoffoknlnaaGreatDoor
open Go.RowKit
end Go.Proofs.YtjdhnoffoknlnaaGreatDoor
namespace Go.Proofs.YtjdhnoffoknlnaaGreatDoor
open Go.RowKit
def CLe (C C':CallF):Prop:=∀ f args fr x,C f args fr=some x→C' f args fr=some x
def LLe (Lp Lp':LoopF):Prop:=∀ f b env fr x,Lp f b env fr=some x→Lp' f b env fr=some x
section
variable {g:Cfg} {C C':CallF} {Lp Lp':LoopF}
theorem callS_mono (h:CLe C C') {dr:Bool} {fr:Fr} {f:Nat} {args:List SV} {x:Res} (hx:callS g C dr fr f args=some x):callS g C' dr fr f args=some x:=by
 unfold callS at hx ⊢
 split at hx
 ·cases hx
 ·rename_i xs hxs
  try simp only [hxs]
  split at hx
  ·rename_i hh
   try simp only [hh]
   split at hx
   ·cases hx
   ·rename_i r ex hc
    rw [h _ _ _ _ hc]
    exact hx
  ·rename_i h0 ht hh
   try simp only [hh]
   split at hx
   ·cases hx
   ·simp only at hx ⊢
    split at hx
    ·cases hx
    ·rename_i bs hbs
     try simp only [hbs]
     split at hx
     ·cases hx
     ·rename_i hcl
      try simp only [hcl]
      split at hx
      ·cases hx
      ·rename_i r fr' hc
       rw [h _ _ _ _ hc]
       exact hx
theorem evW_mono (h:CLe C C') {dr:Bool} {env:Env} {fr:Fr} {op:Op} {x:Res} (hx:evW g C dr env fr op=some x):evW g C' dr env fr op=some x:=by
 unfold evW at hx ⊢
 split at hx <;> first|exact hx|skip
 ·unfold callE at hx ⊢
  split at hx
  ·cases hx
  ·rename_i hc
   try simp only [hc]
   exact callS_mono h hx
theorem step_mono (h:CLe C C') {d:Option (List Nat)} {i:Nat} {env:Env} {fr:Fr} {op:Op} {x:Res} (hx:step g C d i env fr op=some x):step g C' d i env fr op=some x:=by
 have hT:∀ {x},evT g C env fr op=some x→evT g C' env fr op=some x:=fun {x} hx=>by
  unfold evT at hx ⊢
  split at hx
  ·exact evW_mono h hx
  ·exact hx
 have hD:∀ {x},evD g C env fr op=some x→evD g C' env fr op=some x:=fun {x} hx=>by
  unfold evD at hx ⊢
  split at hx
  ·exact evW_mono h hx
  ·exact hx
 unfold step at hx ⊢
 split at hx
 ·exact hT hx
 ·split at hx
  ·exact hT hx
  ·exact hD hx
theorem evOps_mono (h:CLe C C') {d:Option (List Nat)} {ops:Array Oper} {x:Env×Fr}:∀ (l:List Oper) (i:Nat) (env:Env) (fr:Fr),evOps g C d ops i l env fr=some x→evOps g C' d ops i l env fr=some x
 | [],_,_,_,hx=>hx
 | o::l,i,env,fr,hx=>by
  unfold evOps at hx ⊢
  split at hx
  ·split at hx
   ·rename_i hst
    rw [step_mono h hst]
    exact evOps_mono h l _ _ _ hx
   ·cases hx
  ·split at hx
   ·cases hx
   ·rename_i hW
    try simp only [hW]
    split at hx
    ·rename_i hst
     rw [step_mono h hst]
     exact evOps_mono h l _ _ _ hx
    ·cases hx
   ·rename_i hW
    try simp only [hW]
    exact evOps_mono h l _ _ _ hx
theorem evOpsF_mono (h:CLe C C') {effs:List Nat} {ops:Array Oper} {x:Env×Fr}:∀ (l:List Oper) (i:Nat) (env:Env) (fr:Fr),evOpsF g C effs ops i l env fr=some x→evOpsF g C' effs ops i l env fr=some x
 | [],_,_,_,hx=>hx
 | o::l,i,env,fr,hx=>by
  unfold evOpsF at hx ⊢
  split at hx
  ·cases hx
  ·rename_i hfl
   try simp only [hfl]
   split at hx
   ·split at hx
    ·rename_i hst
     rw [step_mono h hst]
     exact evOpsF_mono h l _ _ _ hx
    ·cases hx
   ·split at hx
    ·cases hx
    ·rename_i hW
     try simp only [hW]
     split at hx
     ·rename_i hst
      rw [step_mono h hst]
      exact evOpsF_mono h l _ _ _ hx
     ·cases hx
    ·rename_i hW
     try simp only [hW]
     exact evOpsF_mono h l _ _ _ hx
theorem evRegB_mono (h:CLe C C') {k:Nat} {ops:Array Oper} {env:Env} {fr:Fr} {x:Env×Fr} (hx:evRegB g C k ops env fr=some x):evRegB g C' k ops env fr=some x:=by
 unfold evRegB at hx ⊢
 split at hx
 ·cases hx
 ·rename_i hp
  try simp only [evOps_mono h _ _ _ _ hp]
  split at hx
  ·cases hx
  ·rename_i hl
   try simp only [hl]
   split at hx
   ·cases hx
   ·rename_i hg
    try simp only [hg]
    split at hx
    ·cases hx
    ·rename_i hB
     try simp only [hB]
     exact evOps_mono h _ _ _ _ hx
theorem evRegD_mono (h:CLe C C') {effs:List Nat} {ops:Array Oper} {env:Env} {fr:Fr} {x:Env×Fr} (hx:evRegD g C effs ops env fr=some x):evRegD g C' effs ops env fr=some x:=by
 unfold evRegD at hx ⊢
 split at hx
 ·cases hx
 ·split at hx
  ·cases hx
  ·rename_i hp
   simp only [evOpsF_mono h _ _ _ _ hp]
   exact hx
theorem evReg_mono (h:CLe C C') {f id:Nat} {ops:Array Oper} {draw:Bool} {env:Env} {fr:Fr} {x:Env×Fr} (hx:evReg g f C id ops draw env fr=some x):evReg g f C' id ops draw env fr=some x:=by
 unfold evReg at hx ⊢
 cases draw with
 | false=>
  simp only at hx ⊢
  split at hx
  ·rename_i hm
   try simp only [hm]
   exact evOps_mono h _ _ _ _ hx
  ·rename_i hm
   try simp only [hm]
   exact evRegB_mono h hx
 | true=>
  simp only at hx ⊢
  split at hx
  ·rename_i hm
   try simp only [hm]
   exact evOps_mono h _ _ _ _ hx
  ·rename_i hm
   try simp only [hm]
   exact evOpsF_mono h _ _ _ _ hx
  ·rename_i hm
   try simp only [hm]
   exact evRegD_mono h hx
  ·cases hx
theorem roundE_mono {lv:Option (List Nat)} {A B A' B':Env→Fr→Option (Out×Env×Fr)} (hA:∀ e r x,A e r=some x→A' e r=some x) (hB:∀ e r x,B e r=some x→B' e r=some x) {ps:List Nat} {y:List AV} {env:Env} {fr:Fr} {x:Out×Env×Fr} (h:roundE lv A B ps y env fr=some x):roundE lv A' B' ps y env fr=some x:=by
 unfold roundE at h ⊢
 split at h
 ·cases h
 rename_i h1
 try simp only [h1]
 split at h
 ·cases h
 rename_i h2
 try simp only [h2]
 split at h
 ·rename_i h3
  rw [hA _ _ _ h3]
  simp only
  split at h
  ·cases h
  ·rename_i h4
   rw [hB _ _ _ h4]
   exact h
 ·cases h
theorem roundsE_mono {lv:Option (List Nat)} {A B A' B':Env→Fr→Option (Out×Env×Fr)} (hA:∀ e r x,A e r=some x→A' e r=some x) (hB:∀ e r x,B e r=some x→B' e r=some x) {ps:List Nat} {wh:Bool}:∀ (yss:List (List AV)) (env:Env) (fr:Fr) (x:Out×Env×Fr),roundsE lv A B ps wh yss env fr=some x→roundsE lv A' B' ps wh yss env fr=some x
 | [],env,fr,x,h=>h
 | y::ys,env,fr,x,h=>by
  unfold roundsE at h ⊢
  split at h
  ·rename_i h1
   rw [roundE_mono hA hB h1]
   exact roundsE_mono hA hB ys _ _ _ h
  ·rename_i hno
   rw [roundE_mono hA hB h]
   obtain ⟨o,e,r⟩:=x
   cases o with
   | normal=>exact absurd h (hno _ _)
   | exit id=>rfl
   | ret=>rfl
theorem evC_mono (h:CLe C C') (hL:LLe Lp Lp') {f:Nat}:∀ (c:Code) (env:Env) (fr:Fr) (x:Out×Env×Fr),evC g f C Lp c env fr=some x→evC g f C' Lp' c env fr=some x:=by
 intro c
 induction c with
 | region id ops draw=>
  intro env fr x hx
  unfold evC at hx ⊢
  split at hx
  ·rename_i e r he
   rw [evReg_mono h he]
   exact hx
  ·cases hx
 | seq a b iha ihb=>
  intro env fr x hx
  unfold evC at hx ⊢
  split at hx
  ·rename_i e r ha
   rw [iha _ _ _ ha]
   exact ihb _ _ _ hx
  ·rename_i hno
   rw [iha _ _ _ hx]
   obtain ⟨o,e,r⟩:=x
   cases o with
   | normal=>exact absurd hx (hno _ _)
   | exit id=>rfl
   | ret=>rfl
 | cond c a b iha ihb=>
  intro env fr x hx
  unfold evC at hx ⊢
  split at hx
  ·exact iha _ _ _ hx
  ·exact ihb _ _ _ hx
  ·cases hx
 | block id b ih=>
  intro env fr x hx
  unfold evC at hx ⊢
  split at hx
  ·rename_i i e r hb
   rw [ih _ _ _ hb]
   exact hx
  ·rename_i hno
   rw [ih _ _ _ hx]
   obtain ⟨o,e,r⟩:=x
   cases o with
   | normal=>rfl
   | exit id=>exact absurd hx (hno _ _ _)
   | ret=>rfl
 | loop b ih=>intro env fr x hx;unfold evC at hx ⊢;exact hL _ _ _ _ _ hx
 | rangeFunc op ps asg body iha ihb=>
  intro env fr x hx
  unfold evC at hx ⊢
  split at hx
  ·rename_i h1
   try simp only [h1]
   split at hx
   ·cases hx
   ·rename_i h2
    try simp only [h2]
    split at hx
    ·cases hx
    ·rename_i h3
     try simp only [h3]
     exact roundsE_mono (fun e r x q=>iha e r x q) (fun e r x q=>ihb e r x q) _ _ _ _ hx
  ·cases hx
 | _=>intro env fr x hx;unfold evC at hx ⊢;exact hx
theorem mono_succ:∀ n,CLe (callN g n) (callN g (n+1))∧LLe (loopN g n) (loopN g (n+1))
 | 0=>⟨(fun f args fr x h=>by unfold callN at h;cases h),(fun f b env fr x h=>by unfold loopN at h;cases h)⟩
 | n+1=>by
  obtain ⟨h1,h2⟩:=mono_succ n
  refine ⟨fun f args fr x h=>?_,fun f b env fr x h=>?_⟩
  ·unfold callN at h ⊢
   split at h
   ·exact h
   ·split at h
    ·cases h
    ·rename_i hfn
     try simp only [hfn]
     split at h
     ·rename_i hb
      try simp only [hb]
      split at h
      ·cases h
      ·rename_i hal
       try simp only [hal]
       split at h
       ·rename_i hev;rw [evC_mono h1 h2 _ _ _ _ hev];exact h
       ·rename_i hev;rw [evC_mono h1 h2 _ _ _ _ hev];exact h
       ·cases h
     ·cases h
  ·unfold loopN at h ⊢
   split at h
   ·rename_i hev
    rw [evC_mono h1 h2 _ _ _ _ hev]
    exact h2 _ _ _ _ _ h
   ·rename_i hno
    rw [evC_mono h1 h2 _ _ _ _ h]
    obtain ⟨o,e,r⟩:=x
    cases o with
    | normal=>exact absurd h (hno _ _)
    | exit id=>rfl
    | ret=>rfl
theorem callN_mono {n m:Nat} (h:n≤m):CLe (callN g n) (callN g m):=by
 induction m with
 | zero=>obtain rfl:n=0:=by omega
         exact fun _ _ _ _ h=>h
 | succ m ih=>
  rcases Nat.lt_or_ge m n with h1|h1
  ·obtain rfl:n=m+1:=by omega
   exact fun _ _ _ _ h=>h
  ·exact fun f args fr x hx=>(mono_succ m).1 _ _ _ _ (ih h1 _ _ _ _ hx)
theorem loopN_mono {n m:Nat} (h:n≤m):LLe (loopN g n) (loopN g m):=by
 induction m with
 | zero=>obtain rfl:n=0:=by omega
         exact fun _ _ _ _ _ h=>h
 | succ m ih=>
  rcases Nat.lt_or_ge m n with h1|h1
  ·obtain rfl:n=m+1:=by omega
   exact fun _ _ _ _ _ h=>h
  ·exact fun f b env fr x hx=>(mono_succ m).2 _ _ _ _ _ (ih h1 _ _ _ _ _ hx)
end
def Cl (g:Cfg) (f:Nat) (args:List SV) (fr:Fr) (r:SV) (fr':Fr):Prop:=∃ n,callN g n f args fr=some (r,fr')
def EvK (g:Cfg) (f:Nat) (c:Code) (env:Env) (fr:Fr) (K:Out→Env→Fr→Prop):Prop:=∃ n o e r,evC g f (callN g n) (loopN g n) c env fr=some (o,e,r)∧K o e r
def EvL (g:Cfg) (f:Nat) (b:Code) (env:Env) (fr:Fr) (K:Out→Env→Fr→Prop):Prop:=∃ n o e r,loopN g n f b env fr=some (o,e,r)∧K o e r
def EvO (g:Cfg) (d:Option (List Nat)) (ops:Array Oper) (i:Nat) (l:List Oper) (env:Env) (fr:Fr) (K:Env→Fr→Prop):Prop:=∃ n e r,evOps g (callN g n) d ops i l env fr=some (e,r)∧K e r
def EvOF (g:Cfg) (effs:List Nat) (ops:Array Oper) (i:Nat) (l:List Oper) (env:Env) (fr:Fr) (K:Env→Fr→Prop):Prop:=∃ n e r,evOpsF g (callN g n) effs ops i l env fr=some (e,r)∧K e r
def OpR (g:Cfg) (d:Option (List Nat)) (i:Nat) (env:Env) (fr:Fr) (op:Op) (x:SV) (fr':Fr) (ks:List Nat):Prop:=∃ n,step g (callN g n) d i env fr op=some (x,fr',ks)
def thenK (P:Env→Fr→Prop) (K:Out→Env→Fr→Prop):Out→Env→Fr→Prop
 | .normal,e,r=>P e r
 | o,e,r=>K o e r
def blockK (id:Nat) (K:Out→Env→Fr→Prop):Out→Env→Fr→Prop
 | .exit i,e,r=>match Nat.beq i id with
  | true=>K .normal e r
  | false=>K (.exit i) e r
 | o,e,r=>K o e r
section
variable {g:Cfg} {f:Nat} {env:Env} {fr:Fr} {K:Out→Env→Fr→Prop}
theorem EvK.post {c:Code} {K':Out→Env→Fr→Prop} (h:EvK g f c env fr K) (hK:∀ o e r,K o e r→K' o e r):EvK g f c env fr K':=by
 obtain ⟨n,o,e,r,h1,h2⟩:=h
 exact ⟨n,o,e,r,h1,hK _ _ _ h2⟩
theorem EvK.skip (h:K .normal env fr):EvK g f .skip env fr K:=⟨0,.normal,env,fr,by unfold evC;rfl,h⟩
theorem EvK.exit {id:Nat} (h:K (.exit id) env fr):EvK g f (.exit id) env fr K:=⟨0,.exit id,env,fr,by unfold evC;rfl,h⟩
theorem EvK.ret (h:K .ret env fr):EvK g f .ret env fr K:=⟨0,.ret,env,fr,by unfold evC;rfl,h⟩
theorem EvK.seq {a b:Code} (h:EvK g f a env fr (thenK (fun e r=>EvK g f b e r K) K)):EvK g f (.seq a b) env fr K:=by
 obtain ⟨n,o,e,r,h1,h2⟩:=h
 cases o with
 | normal=>
  obtain ⟨m,o,e',r',h3,h4⟩:=h2
  refine ⟨max n m,o,e',r',?_,h4⟩
  unfold evC
  rw [evC_mono (callN_mono (Nat.le_max_left n m)) (loopN_mono (Nat.le_max_left n m)) _ _ _ _ h1]
  exact evC_mono (callN_mono (Nat.le_max_right n m)) (loopN_mono (Nat.le_max_right n m)) _ _ _ _ h3
 | exit id=>exact ⟨n,_,e,r,by unfold evC;rw [h1],h2⟩
 | ret=>exact ⟨n,_,e,r,by unfold evC;rw [h1],h2⟩
theorem EvK.cond {c:Operand} {a b:Code} {t:Bool} (hc:rd env c=.t (.bool t)) (ha:t=true→EvK g f a env fr K) (hb:t=false→EvK g f b env fr K):EvK g f (.cond c a b) env fr K:=by
 cases t with
 | true=>obtain ⟨n,o,e,r,h1,h2⟩:=ha rfl;exact ⟨n,o,e,r,by unfold evC;rw [hc];exact h1,h2⟩
 | false=>obtain ⟨n,o,e,r,h1,h2⟩:=hb rfl;exact ⟨n,o,e,r,by unfold evC;rw [hc];exact h1,h2⟩
theorem EvK.block {id:Nat} {b:Code} (h:EvK g f b env fr (blockK id K)):EvK g f (.block id b) env fr K:=by
 obtain ⟨n,o,e,r,h1,h2⟩:=h
 cases o with
 | normal=>exact ⟨n,_,e,r,by unfold evC;rw [h1],h2⟩
 | ret=>exact ⟨n,_,e,r,by unfold evC;rw [h1],h2⟩
 | exit i=>
  unfold blockK at h2
  simp only at h2
  split at h2
  ·rename_i hi;exact ⟨n,.normal,e,r,by unfold evC;rw [h1];simp only [hi],h2⟩
  ·rename_i hi;exact ⟨n,.exit i,e,r,by unfold evC;rw [h1];simp only [hi],h2⟩
theorem EvK.text {id:Nat} {l:List Oper} (hm:g.eff f id=[]) (h:EvO g none l.toArray 0 l env fr fun e r=>K .normal e r):EvK g f (.region id l.toArray false) env fr K:=by
 obtain ⟨n,e,r,h1,h2⟩:=h
 exact ⟨n,.normal,e,r,by unfold evC evReg;simp only [hm];rw [h1],h2⟩
theorem EvK.drawn {id:Nat} {l:List Oper} (hm:effK (g.eff f id)=0) (h:EvO g (some (g.eff f id)) l.toArray 0 l env fr fun e r=>K .normal e r):EvK g f (.region id l.toArray true) env fr K:=by
 obtain ⟨n,e,r,h1,h2⟩:=h
 exact ⟨n,.normal,e,r,by unfold evC evReg;simp only [hm];rw [h1],h2⟩
theorem EvK.drawnF {id:Nat} {l:List Oper} (hm:effK (g.eff f id)=1) (h:EvOF g (g.eff f id) l.toArray 0 l env fr fun e r=>K .normal e r):EvK g f (.region id l.toArray true) env fr K:=by
 obtain ⟨n,e,r,h1,h2⟩:=h
 exact ⟨n,.normal,e,r,by unfold evC evReg;simp only [hm];rw [h1],h2⟩
theorem EvK.loop {b:Code} {p:Env×Fr} (hp:ownE (g.own f (blockId b)) env fr=p) {q:Env×Fr} (hq:head (g.lv f (blockId b)) p.2.length p.1 p.2=q) (h:EvL g f b q.1 q.2 K):EvK g f (.loop b) env fr K:=by
 subst hp hq
 obtain ⟨n,o,e,r,h1,h2⟩:=h
 exact ⟨n,o,e,r,by unfold evC;exact h1,h2⟩
theorem EvL.step {b:Code} (h:EvK g f b env fr (thenK (fun e r=>EvL g f b (head (g.lv f (blockId b)) fr.length e r).1 (head (g.lv f (blockId b)) fr.length e r).2 K) K)):EvL g f b env fr K:=by
 obtain ⟨n,o,e,r,h1,h2⟩:=h
 cases o with
 | normal=>
  obtain ⟨m,o,e',r',h3,h4⟩:=h2
  refine ⟨max n m+1,o,e',r',?_,h4⟩
  unfold loopN
  rw [evC_mono (callN_mono (Nat.le_max_left n m)) (loopN_mono (Nat.le_max_left n m)) _ _ _ _ h1]
  exact loopN_mono (Nat.le_max_right n m) _ _ _ _ _ h3
 | exit id=>exact ⟨n+1,_,e,r,by unfold loopN;rw [h1],h2⟩
 | ret=>exact ⟨n+1,_,e,r,by unfold loopN;rw [h1],h2⟩
theorem Cl.of_body {args:List SV} {r:SV} {fr':Fr} {fn:Func} {c:Code} {ts:List (Nat×Option Nat)} (hok:g.ok f=true) (hf:g.P.funcs[f]?=some fn) (hb:fn.body=some c) (hts:resTmps fn.results.toList=ts) (hal:Nat.ble args.length fn.ntmps=true)
  (h:EvK g f c (ofArgs args) fr fun o e q=>(o=.normal∨o=.ret)∧finO fr.length (outOf g.P e q ts) q=some (r,fr')) (ht:g.tre f=false:=by rfl):Cl g f args fr r fr':=by
 subst hts
 obtain ⟨n,o,e,q,h1,h2,h3⟩:=h
 refine ⟨n+1,?_⟩
 unfold callN
 simp only [hok,hf,hb,hal,h1,ht,treT]
 rcases h2 with rfl|rfl <;> exact h3
variable {d:Option (List Nat)} {ops:Array Oper} {i:Nat} {K':Env→Fr→Prop}
theorem EvO.nil (h:K' env fr):EvO g d ops i [] env fr K':=⟨0,env,fr,rfl,h⟩
theorem EvO.u {l:List Oper} {dst:Option Tmp} {op:Op} {ty:TypeId} {pos:String} {after:Array Edge} {x:SV} {fr':Fr} {ks:List Nat} (hx:OpR g d i env fr op x fr' ks) (h:EvO g d ops (i+1) l (updO (killE ks env) dst x) fr' K'):EvO g d ops i (⟨dst,op,ty,pos,after,none⟩::l) env fr K':=by
 obtain ⟨n,h1⟩:=hx
 obtain ⟨m,e,r,h2,h3⟩:=h
 refine ⟨max n m,e,r,?_,h3⟩
 unfold evOps
 simp only
 rw [step_mono (callN_mono (Nat.le_max_left n m)) h1]
 exact evOps_mono (callN_mono (Nat.le_max_right n m)) _ _ _ _ h2
theorem EvO.gd {l:List Oper} {dst:Option Tmp} {op:Op} {ty:TypeId} {pos:String} {after:Array Edge} {j:Nat} {want W:Bool} {x:SV} (hW:gOf ops env j want=some W) (hx:W=true→OpR g d i env fr op x fr []) (h:EvO g d ops (i+1) l (updO env dst (cndv W x)) fr K'):EvO g d ops i (⟨dst,op,ty,pos,after,some (j,want)⟩::l) env fr K':=by
 obtain ⟨m,e,r,h2,h3⟩:=h
 cases W with
 | false=>
  refine ⟨m,e,r,?_,h3⟩
  unfold evOps
  simp only [hW]
  exact h2
 | true=>
  obtain ⟨n,h1⟩:=hx rfl
  refine ⟨max n m,e,r,?_,h3⟩
  unfold evOps
  simp only [hW]
  rw [step_mono (callN_mono (Nat.le_max_left n m)) h1]
  exact evOps_mono (callN_mono (Nat.le_max_right n m)) _ _ _ _ h2
theorem EvO.gt {l:List Oper} {dst:Option Tmp} {op:Op} {ty:TypeId} {pos:String} {after:Array Edge} {j:Nat} {want:Bool} {x:SV} {fr':Fr} {ks:List Nat} (hW:gOf ops env j want=some true) (hx:OpR g d i env fr op x fr' ks) (h:EvO g d ops (i+1) l (updO (killE ks env) dst (.yes x)) fr' K'):EvO g d ops i (⟨dst,op,ty,pos,after,some (j,want)⟩::l) env fr K':=by
 obtain ⟨m,e,r,h2,h3⟩:=h
 obtain ⟨n,h1⟩:=hx
 refine ⟨max n m,e,r,?_,h3⟩
 unfold evOps
 simp only [hW]
 rw [step_mono (callN_mono (Nat.le_max_left n m)) h1]
 exact evOps_mono (callN_mono (Nat.le_max_right n m)) _ _ _ _ h2
theorem EvO.gf {l:List Oper} {dst:Option Tmp} {op:Op} {ty:TypeId} {pos:String} {after:Array Edge} {j:Nat} {want:Bool} (hW:gOf ops env j want=some false) (h:EvO g d ops (i+1) l (updO env dst .no) fr K'):EvO g d ops i (⟨dst,op,ty,pos,after,some (j,want)⟩::l) env fr K':=by
 obtain ⟨m,e,r,h2,h3⟩:=h
 refine ⟨m,e,r,?_,h3⟩
 unfold evOps
 simp only [hW]
 exact h2
variable {effs:List Nat}
theorem EvOF.nil (h:K' env fr):EvOF g effs ops i [] env fr K':=⟨0,env,fr,rfl,h⟩
theorem EvOF.u {l:List Oper} {dst:Option Tmp} {op:Op} {ty:TypeId} {pos:String} {after:Array Edge} {x:SV} {fr':Fr} (hfl:fltM effs ops env fr i=true) (hx:OpR g (some effs) i env fr op x fr' []) (h:EvOF g effs ops (i+1) l (updO env dst x) fr' K'):EvOF g effs ops i (⟨dst,op,ty,pos,after,none⟩::l) env fr K':=by
 obtain ⟨n,h1⟩:=hx
 obtain ⟨m,e,r,h2,h3⟩:=h
 refine ⟨max n m,e,r,?_,h3⟩
 unfold evOpsF
 simp only [hfl]
 rw [step_mono (callN_mono (Nat.le_max_left n m)) h1]
 exact evOpsF_mono (callN_mono (Nat.le_max_right n m)) _ _ _ _ h2
theorem EvOF.gt {l:List Oper} {dst:Option Tmp} {op:Op} {ty:TypeId} {pos:String} {after:Array Edge} {j:Nat} {want:Bool} {x:SV} {fr':Fr} (hfl:fltM effs ops env fr i=true) (hW:gOf ops env j want=some true) (hx:OpR g (some effs) i env fr op x fr' []) (h:EvOF g effs ops (i+1) l (updO env dst (.yes x)) fr' K'):EvOF g effs ops i (⟨dst,op,ty,pos,after,some (j,want)⟩::l) env fr K':=by
 obtain ⟨n,h1⟩:=hx
 obtain ⟨m,e,r,h2,h3⟩:=h
 refine ⟨max n m,e,r,?_,h3⟩
 unfold evOpsF
 simp only [hfl,hW]
 rw [step_mono (callN_mono (Nat.le_max_left n m)) h1]
 exact evOpsF_mono (callN_mono (Nat.le_max_right n m)) _ _ _ _ h2
theorem EvOF.gf {l:List Oper} {dst:Option Tmp} {op:Op} {ty:TypeId} {pos:String} {after:Array Edge} {j:Nat} {want:Bool} (hfl:fltM effs ops env fr i=true) (hW:gOf ops env j want=some false) (h:EvOF g effs ops (i+1) l (updO env dst .no) fr K'):EvOF g effs ops i (⟨dst,op,ty,pos,after,some (j,want)⟩::l) env fr K':=by
 obtain ⟨m,e,r,h2,h3⟩:=h
 refine ⟨m,e,r,?_,h3⟩
 unfold evOpsF
 simp only [hfl,hW]
 exact h2
theorem OpR.r {op:Op} {x:SV} {fr':Fr} {ks:List Nat} (h:∀ C,step g C d i env fr op=some (x,fr',ks)):OpR g d i env fr op x fr' ks:=⟨0,h _⟩
end
end Go.Proofs.YtjdhnoffoknlnaaGreatDoor
