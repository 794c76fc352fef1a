/- The tree evaluator,18: regions that draw their order. No condition. -/
import Derived.Test.YtjolgbkkocjpgaaGreatDoorTB
import Derived.RangeFuncSeq
set_option linter.defProp false
set_option linter.unusedSimpArgs false
set_option linter.unusedVariables false
set_option linter.unusedSectionVars false
namespace Go.Proofs.YtjolgbkkocjpgaaGreatDoor
open Go.RowKit
def oF(g:Cfg)(C:CallF)(d:Option (List Nat))(ops:Array Oper)(i:Nat)(o:Oper)(E:Env)(F:Fr)(E':Env)(v:Fr):Prop:=
 match o.guard with
 |none=>∃x ks,step g C d i E F o.op=some (x,v,ks)/\E'=aK (fZ ks E) o.dst x
 |some (j,u)=>(cX ops E j u=some true/\∃x ks,step g C d i E F o.op=some (x,v,ks)/\E'=aK (fZ ks E) o.dst (.aS x))\/(cX ops E j u=some false/\v=F/\E'=aK E o.dst .no)
theorem Bm{g:Cfg}{C:CallF}{d:Option (List Nat)}{ops:Array Oper}{env':Env}{fr':Fr}:∀(l:List Oper) (n:Nat) (env:Env) (fr:Fr),dH g C d ops n l env fr=some (env',fr')->
  ∃(E:Nat->Env) (F:Nat->Fr),E 0=env/\F 0=fr/\(∀i o,l[i]?=some o->oF g C d ops (n+i) o (E i) (F i) (E (i+1)) (F (i+1)))/\E l.length=env'/\F l.length=fr'
 |[],n,env,fr,h=>by
  unfold dH at h;cases h;exact⟨fun _=>env',fun _=>fr',rfl,rfl,fun i o U=>by simp at U,rfl,rfl⟩
 |o::l,n,env,fr,h=>by
  have:∃z u,oF g C d ops n o env fr z u/\dH g C d ops (n+1) l z u=some (env',fr'):=by
   unfold dH at h;unfold oF;split at h
   ·rename_i G;rw[G];split at h
    ·rename_i x u ks v;exact⟨_,u,⟨x,ks,v,rfl⟩,h⟩
    ·cases h
   ·rename_i j I G;rw[G];split at h
    ·cases h
    ·rename_i D;split at h
     ·rename_i x u ks v;exact⟨_,u,.inl ⟨D,x,ks,v,rfl⟩,h⟩
     ·cases h
    ·rename_i D;exact⟨_,_,.inr ⟨D,rfl,rfl⟩,h⟩
  obtain⟨z,u,h1,h2⟩:=this;obtain⟨E,F,J,a2,a3,a4,a5⟩:=Bm l (n+1) z u h2;refine⟨fun i=>match i with|0=>env|i+1=>E i,fun i=>match i with|0=>fr|i+1=>F i,rfl,rfl,fun i V y=>?_,a4,a5⟩
  cases i with
  |zero=>cases y;show oF g C d ops (n+0) _ env fr (E 0) (F 0);rw[J,a2];exact h1
  |succ i=>
   have:=a3 i V (by simpa using y);rw[Nat.add_assoc,Nat.add_comm 1 i]at this;exact this
def Hq{g:Cfg}{C:CallF}{fr:Fr}{f:Nat}{args:List SV}{x:SV}{fr':Fr}{ks:List Nat}(h:il g C true fr f args=some (x,fr',ks)):fr'=fr/\ks=[]:=by
 unfold il at h;split at h
 ·cases h
 ·split at h
  ·split at h
   ·cases h
   ·split at h
    ·cases h;exact⟨rfl,rfl⟩
    ·simp only at h;split at h
     ·split at h
      ·cases h;exact⟨rfl,rfl⟩
      ·split at h
       ·cases h;exact⟨rfl,rfl⟩
       ·cases h
     ·cases h
  ·cases h
def xA{g:Cfg}{C:CallF}{env:Env}{fr:Fr}{op:Op}{x:SV}{fr':Fr}{ks:List Nat}(h:io g C env fr op=some (x,fr',ks)):fr'=fr/\ks=[]:=by
 unfold io at h;split at h
 ·rename_i u;unfold mz at u;split at u
  ·unfold bU rA at h;simp only at h;split at h
   ·cases h;exact⟨rfl,rfl⟩
   ·cases h
  ·rename_i c v y;unfold bU at h;simp only at h;unfold my at h;split at h
   ·cases h
   ·exact Hq h
  ·cases u
 ·obtain⟨_,rfl,rfl⟩:=uq h;exact⟨rfl,rfl⟩
section
variable {g:Cfg} {γ:Glob} {κ:Ctx} {C:CallF} {ops:Array Oper} {effs:List Nat} {n:Nat} {E:Nat->Env} {F:Nat->Fr}
structure ir (γ:Glob) (κ:Ctx) (ops:Array Oper) (effs:List Nat) (n:Nat) (E:Nat->Env) (F:Nat->Fr) (b:Nat) (L:Ls) (listed:Array Bool) (a:Act) (w:World):Prop where
 hd:Marks κ w a.defers
 hn:a.tmps.size=n
 hs:listed.size=ops.size
 hb:b<=ops.size
 low:∀k,k <b->listed.getD k true=true
 p7:∀k,b<=k->k <ops.size->listed.getD k true=true->∀e∈effs,b<=e->k <e
 bF:av γ κ (F b) L w
 done:∀(k:Nat) (o:Oper) (t:Nat),ops[k]?=some o->b<=k->o.dst=some t->listed.getD k true=true->SR (MA κ.M (F b) L) L w (E (k+1) t) (a.tmps.getD t undef)
 rest:∀(t:Nat),(∀(k:Nat) (o:Oper),ops[k]?=some o->b<=k->o.dst=some t->listed.getD k true=false)->SR (MA κ.M (F b) L) L w (E b t) (a.tmps.getD t undef)
 eB:∀(k:Nat) (o:Oper),ops[k]?=some o->listed.getD k true=true->∀e∈o.after,Region.binds .any e=true->listed.getD e.on false=true
abbrev Steps(g:Cfg)(C:CallF)(ops:Array Oper)(effs:List Nat)(E:Nat->Env)(F:Nat->Fr):Prop:=∀(i:Nat) (o:Oper),ops[i]?=some o->oF g C (some effs) ops i o (E i) (F i) (E (i+1)) (F (i+1))
def Steps.xB(y:Steps g C ops effs E F){i:Nat}{o:Oper}(ho:ops[i]?=some o)(hi:i∉effs):F (i+1)=F i/\∀t,o.dst≠some t->E (i+1) t=E i t:=by
 have h:=y i o ho
 have v:∀{x ks},step g C (some effs) i (E i) (F i) o.op=some (x,F (i+1),ks)->F (i+1)=F i/\ks=[]:=fun{x ks} h=>by
  unfold step at h;simp only[iq.2 hi]at h;exact xA h
 unfold oF at h;split at h
 ·obtain⟨x,ks,h1,h2⟩:=h;obtain⟨h3,rfl⟩:=v h1;exact⟨h3,fun t u=>by rw[h2,p5 u];rfl⟩
 ·rcases h with⟨_,x,ks,h1,h2⟩|⟨_,h1,h2⟩
  ·obtain⟨h3,rfl⟩:=v h1;exact⟨h3,fun t u=>by rw[h2,p5 u];rfl⟩
  ·exact⟨h1,fun t u=>by rw[h2,p5 u]⟩
theorem xC(u:Steps g C ops effs E F){b:Nat}:∀i,b<=i->i<=ops.size->(∀m,b<=m->m <i->m∉effs)->F i=F b
 |0,h,_,_=>by
   obtain rfl:b=0:=by omega
   rfl
 |i+1,h,y,v=>by
  rcases Nat.lt_or_ge i b with h1|h1
  ·obtain rfl:b=i+1:=by omega
   rfl
  ·rw[(u.xB (Array.getElem?_eq_getElem (by omega)) (v i h1 (by omega))).1];exact xC u i h1 (by omega) fun m h2 h3=>v m h2 (by omega)
theorem xD(v:Steps g C ops effs E F)(t b:Nat):∀i,b<=i->i<=ops.size->(∀m,b<=m->m <i->m∉effs)->(∀(k:Nat) (o:Oper),b<=k->k <i->ops[k]?=some o->o.dst≠some t)->E i t=E b t
 |0,h,_,_,_=>by
   obtain rfl:b=0:=by omega
   rfl
 |i+1,h,G,z,y=>by
  rcases Nat.lt_or_ge i b with h1|h1
  ·obtain rfl:b=i+1:=by omega
   rfl
  ·rw[(v.xB (Array.getElem?_eq_getElem (by omega)) (z i h1 (by omega))).2 t (y i _ h1 (by omega) (Array.getElem?_eq_getElem (by omega)))];exact xD v t b i h1 (by omega) (fun m h2 h3=>z m h2 (by omega)) fun k o u D=>y k o u (by omega)
variable {b:Nat} {L:Ls} {listed:Array Bool} {a:Act} {w:World}
def ir.start(hd:Marks κ w a.defers)(hn:a.tmps.size=n)(z:av γ κ (F 0) L w)(D:∀t,SR (MA κ.M (F 0) L) L w (E 0 t) (a.tmps.getD t undef)):ir γ κ ops effs n E F 0 L (Array.replicate ops.size false) a w where
 hd:=hd
 hn:=hn
 hs:=by simp
 hb:=Nat.zero_le _
 low:=fun k v=>by omega
 p7:=fun k _ v u=>by
  rw[Array.getD_eq_getD_getElem?,Array.getElem?_replicate,if_pos v]at u;cases u
 bF:=z
 done:=fun k o t y _ _ u=>by
  have v:=(Array.getElem?_eq_some_iff.1 y).1;rw[Array.getD_eq_getD_getElem?,Array.getElem?_replicate,if_pos v]at u;cases u
 rest:=fun t _=>D t
 eB:=fun k o y u=>by
  have v:=(Array.getElem?_eq_some_iff.1 y).1;rw[Array.getD_eq_getD_getElem?,Array.getElem?_replicate,if_pos v]at u;cases u
def ir.slot(hok:rT ops effs)(U:Steps g C ops effs E F)(h:ir γ κ ops effs n E F b L listed a w)
  {i:Nat}{t:Nat}(G:b<=i)(hi:i<=ops.size)(hm:∀m,b<=m->m <i->m∉effs)(h1:∀(k:Nat) (ok:Oper),ops[k]?=some ok->b<=k->ok.dst=some t->listed.getD k true=true->k <i)(h2:∀(k:Nat) (ok:Oper),ops[k]?=some ok->b<=k->ok.dst=some t->listed.getD k true=false->i<=k):SR (MA κ.M (F b) L) L w (E i t) (a.tmps.getD t undef):=by
 by_cases y:∃(k:Nat) (ok:Oper),ops[k]?=some ok/\b<=k/\ok.dst=some t/\listed.getD k true=true
 ·obtain⟨k,ok,v,u,hd,D⟩:=y;have I:=h1 k ok v u hd D;rw[xD U t (k+1) i (by omega) hi (fun m h2 h3=>hm m (by omega) h3) fun m om V Z J=>hok.dst m om k ok t J v (by omega) hd];exact h.done k ok t v u hd D
 ·have z:∀(k:Nat) (o:Oper),ops[k]?=some o->b<=k->o.dst=some t->listed.getD k true=false:=fun k o v u hd=>by
   rw[<- Bool.not_eq_true];exact fun D=>y ⟨k,o,v,u,hd,D⟩
  rw[xD U t b i G hi hm fun k o u I v hd=>by have:=h2 k o v u hd (z k o v u hd);omega];exact h.rest t z
def ir.mG(h:ir γ κ ops effs n E F b L listed a w){i k:Nat}(ha:gK ops i k):(∀(o:Oper),ops[i]?=some o->∀e∈o.after,Region.binds .any e=true->listed.getD e.on false=true)->listed.getD k true=true:=by
 induction ha with
 |one i o e z v u=>intro y;exact gL (y o z e v u)
 |more i k o e z v u ha G=>
  intro y;have h1:=gL (y o z e v u);exact G fun I D=>h.eB e.on I D h1
def Hr(hok:rT ops effs){listed:Array Bool}(hs:listed.size=ops.size)(hr:Region.ready .any ops listed=[]):∀k,k <ops.size->listed.getD k true=true:=by
 intro k
 induction k using Nat.strongRecOn with
 |_ k ih=>
  intro v;rw[<- Bool.not_eq_false];intro G
  have y:k∈Region.ready .any ops listed:=mem_ready.2 ⟨G,ops[k],Array.getElem?_eq_getElem v,fun e D z=>by
   have u:=hok.back k _ (Array.getElem?_eq_getElem v) e D z;exact xz (by rw[hs];omega) (ih e.on u (by omega))⟩
  rw[hr]at y;cases y
theorem ir.put(hok:rT ops effs)(h:ir γ κ ops effs n E F b L listed a w){w':World}{i:Nat}{o:Oper}(ho:ops[i]?=some o)(al:listed.getD i true=false)(ab:b<=i)(ak:i∉effs)(ag:∀e∈effs,b<=e->i <e)(G:∀e∈o.after,Region.binds .any e=true->listed.getD e.on false=true)
  (U:∀d,o.dst=some d->d <n){v:Value}{L':Ls}(hT:Tr κ.M (F b) L w (F b) L' w' [])(Z:av γ κ (F b) L' w')(hv:∀t,o.dst=some t->SR (MA κ.M (F b) L') L' w' (E (i+1) t) v):ir γ κ ops effs n E F b L' (listed.setIfInBounds i true) (a.put o.dst v) w' where
 hd:=by rw[put_defers];exact h.hd.tr h.bF hT
 hn:=by rw[bQ,h.hn]
 hs:=by rw[Array.size_setIfInBounds];exact h.hs
 hb:=h.hb
 low:=fun k y=>by rw[getD_set_ne true (by omega)];exact h.low k y
 p7:=fun k z y D e V J=>by
  by_cases u:k=i
  ·subst u;exact ag e V J
  ·rw[getD_set_ne true (Ne.symm u)]at D;exact h.p7 k z y D e V J
 bF:=Z
 done:=fun k ok t y z hd D=>by
  by_cases u:k=i
  ·subst u;rw[ho]at y;cases y;rw[hd,fz (by rw[h.hn];exact U t hd)];exact hv t hd
  ·rw[ck (hok.dst i o k ok t ho y u hd)];rw[getD_set_ne true (Ne.symm u)]at D;exact hT.sr (h.done k ok t y z hd D)
 rest:=fun t ht=>by
  have hi:o.dst≠some t:=fun hd=>by
   have ad:i <listed.size:=by rw[h.hs];exact(Array.getElem?_eq_some_iff.1 ho).1
   have:=ht i o ho ab hd;rw[Array.getD_eq_getD_getElem?,Array.getElem?_setIfInBounds_self_of_lt ad]at this;cases this
  rw[ck hi];refine hT.sr (h.rest t fun k ok y z hd=>?_);have u:k≠i:=fun e=>by subst e;rw[ho]at y;cases y;exact hi hd
  have:=ht k ok y z hd;rw[getD_set_ne true (Ne.symm u)]at this;exact this
 eB:=fun k ok y D e V I=>by
  by_cases u:k=i
  ·subst u;rw[ho]at y;cases y;exact getD_set_true (G e V I)
  ·rw[getD_set_ne true (Ne.symm u)]at D;exact getD_set_true (h.eB k ok y D e V I)
def ir.jump(h:ir γ κ ops effs n E F b L listed a w){w':World}{i:Nat}{o:Oper}(ho:ops[i]?=some o)(V:∀k,k <i->listed.getD k true=true)(I:∀k,i <k->k <ops.size->listed.getD k true=false)(D:∀e∈o.after,Region.binds .any e=true->listed.getD e.on false=true)
  {v:Value}{L':Ls}(hd:Marks κ w' a.defers)(J:av γ κ (F (i+1)) L' w')(hV:∀t,SR (MA κ.M (F (i+1)) L') L' w' (E (i+1) t) ((a.put o.dst v).tmps.getD t undef)):ir γ κ ops effs n E F (i+1) L' (listed.setIfInBounds i true) (a.put o.dst v) w' where
 hd:=by rw[put_defers];exact hd
 hn:=by rw[bQ,h.hn]
 hs:=by rw[Array.size_setIfInBounds];exact h.hs
 hb:=(Array.getElem?_eq_some_iff.1 ho).1
 low:=fun k y=>by
  by_cases u:k=i
  ·subst u;have Z:k <listed.size:=by rw[h.hs];exact(Array.getElem?_eq_some_iff.1 ho).1
   rw[Array.getD_eq_getD_getElem?,Array.getElem?_setIfInBounds_self_of_lt Z];rfl
  ·rw[getD_set_ne true (Ne.symm u)];exact V k (by omega)
 p7:=fun k U y z=>by
  rw[getD_set_ne true (by omega),I k (by omega) y]at z;cases z
 bF:=J
 done:=fun k ok t y U hd z=>by
  rw[getD_set_ne true (by omega),I k (by omega) (Array.getElem?_eq_some_iff.1 y).1]at z;cases z
 rest:=fun t _=>hV t
 eB:=fun k ok y z e he G=>by
  by_cases u:k=i
  ·subst u;rw[ho]at y;cases y;exact getD_set_true (D e he G)
  ·rw[getD_set_ne true (Ne.symm u)]at z;exact getD_set_true (h.eB k ok y z e he G)
def Hs{rd:Option Nat}{dn:Nat}(hS:fy g.P γ C)(hok:rT ops effs)(aR:lN n ops.toList=true)(hE:Steps g C ops effs E F){Q:Exit->Act->World->Prop}
  (hK:∀L a w,Marks κ w a.defers->a.tmps.size=n->av γ κ (F ops.size) L w->(∀t,SR (MA κ.M (F ops.size) L) L w (E ops.size t) (a.tmps.getD t undef))->Q .normal a w):
  ∀(I:Nat) (b:Nat) (L:Ls) (listed:Array Bool) (a:Act) (w:World),fL listed ops.size<=I->ir γ κ ops effs n E F b L listed a w->wpAnyIn (Fw rd) dn g.P .any ops Q I listed a w:=by
 have ad:∀(i:Nat) (o:Oper),ops[i]?=some o->∀d,o.dst=some d->d <n:=fun i o ho d hd=>lO aR (Array.mem_toList_iff.2 (Array.mem_of_getElem? ho)) hd
 have fin:∀(b:Nat) (L:Ls) (listed:Array Bool) (a:Act) (w:World),(∀k,k <ops.size->listed.getD k true=true)->ir γ κ ops effs n E F b L listed a w->Q .normal a w:=fun b L listed a w V h=>by
  have hm:∀m,b<=m->m <ops.size->m∉effs:=fun m h1 h2 h3=>Nat.lt_irrefl _ (h.p7 m h1 h2 (V m h2) m h3 h1);have hF:=xC hE ops.size h.hb (Nat.le_refl _) hm;refine hK L a w h.hd h.hn (by rw[hF];exact h.bF) fun t=>?_;rw[hF]
  exact h.slot hok hE h.hb (Nat.le_refl _) hm (fun k ok G _ _ _=>(Array.getElem?_eq_some_iff.1 G).1) (fun k ok G _ _ hl=>by
   have:=V k (Array.getElem?_eq_some_iff.1 G).1;rw[hl]at this;cases this)
 intro I
 induction I with
 |zero=>
  intro b L listed a w hu h;have V:=uu (listed:=listed) ops.size (by omega);refine⟨?_,fin b L listed a w V h⟩
  cases hr:Region.ready .any ops listed with
  |nil=>rfl
  |cons i l=>
   have hm:i∈Region.ready .any ops listed:=by rw[hr];simp
   obtain⟨hl,o,ho,_⟩:=mem_ready.1 hm;have:=V i (Array.getElem?_eq_some_iff.1 ho).1;rw[hl]at this;cases this
 |succ I ih=>
  intro b L listed a w hu h;refine⟨fun hr=>fin b L listed a w (Hr hok h.hs hr) h,fun i hi=>?_⟩;obtain⟨hl,o,ho,J⟩:=mem_ready.1 hi;have aA:=(Array.getElem?_eq_some_iff.1 ho).1;have D:=hE i o ho
  have be:fL (listed.setIfInBounds i true) ops.size<=I:=by
   have:=rU hl ops.size;rw[if_pos aA]at this;omega
  have al:b<=i:=by
   rcases Nat.lt_or_ge i b with h1|h1
   ·have:=h.low i h1;rw[hl]at this;cases this
   ·exact h1
  have ag:∀k,gK ops i k->listed.getD k true=true:=fun k ha=>h.mG ha fun o' ay=>by rw[ho]at ay;cases ay;exact J
  have bc:∀e∈effs,b<=e->¬e <i:=fun e he au bb=>by
   have h1:=ag e ((hok.eff e he i aA).2 bb);exact Nat.lt_irrefl _ (h.p7 e au (by omega) h1 e he au)
  have hm:∀m,b<=m->m <i->m∉effs:=fun m h1 h2 h3=>bc m h3 h1 h2;have hF:F i=F b:=xC hE i al (by omega) hm
  have ak:∀k,ff o k=true->listed.getD k true=true/\k <i:=fun k G=>by
   obtain⟨e,he,hb,rfl⟩:=lP G;exact⟨gL (J e he hb),hok.back i o ho e he hb⟩
  have bd:∀y∈o.op.operands,SR (MA κ.M (F i) L) L w (du (E i) y) (a.eval y):=fun y hy=>by
   rw[hF]
   cases y with
   |const v=>exact jJ v
   |global g=>exact .dead _
   |func f=>exact .t _ _ (.fn _ [] #[] #[] rfl (fun j x u hx _=>by simp at hx))
   |tmp t=>
    refine h.slot hok hE al (by omega) hm (fun k ok G aE hd z=>?_) (fun k ok G aE hd z=>?_)
    ·have bl:k≠i:=fun e=>by subst e;rw[hl]at z;cases z
     rcases hok.use i o k ok t ho G bl hd hy with h1|h1
     ·exact(ak k h1).2
     ·obtain⟨e,he,hb,rfl⟩:=lP h1;have:=gL (h.eB k ok G z e he hb);rw[hl]at this;cases this
    ·rcases Nat.lt_or_ge k i with bb|bj
     ·rcases hok.use i o k ok t ho G (by omega) hd hy with h1|h1
      ·have:=(ak k h1).1;rw[z]at this;cases this
      ·obtain⟨e,he,hb,rfl⟩:=lP h1;have:=hok.back k ok G e he hb;omega
     ·exact bj
  have ap:av γ κ (F i) L w:=by rw[hF];exact h.bF
  -- what comes behind this operation,once it is carried out
  have next:∀(v:Value) (w':World) (L':Ls) (x:SV) (ks:List Nat),Tr κ.M (F i) L w (F (i+1)) L' w' ks->av γ κ (F (i+1)) L' w'->SR (MA κ.M (F (i+1)) L') L' w' x v->E (i+1)=aK (fZ ks (E i)) o.dst x->(i∉effs->ks=[])->wpAnyIn (Fw rd) dn g.P .any ops Q I (listed.setIfInBounds i true) (a.put o.dst v) w':=fun v w' L' x ks hT ab hv U aI=>by
   by_cases Z:i∈effs
   ·have a_:∀k,k <i->listed.getD k true=true:=fun k G=>ag k ((hok.eff i Z k (by omega)).1 G)
    have a1:∀k,i <k->k <ops.size->listed.getD k true=false:=fun k G aI=>by
     rw[<- Bool.not_eq_true];intro z;have:=h.mG ((hok.eff i Z k aI).2 G) fun o' ay=>h.eB k o' ay z;rw[hl]at this;cases this
    refine ih _ _ _ _ _ be (h.jump ho a_ a1 J (h.hd.tr ap hT) ab fun t=>?_);rw[U];refine kG (fun t=>?_) hv (fun k G=>by rw[h.hn];exact ad i o ho k G) t;refine hT.env ?_;rw[hF];refine h.slot hok hE al (by omega) hm (fun k ok G _ _ z=>?_) (fun k ok G _ _ z=>?_)
    ·have:=(Array.getElem?_eq_some_iff.1 G).1;rcases Nat.lt_trichotomy k i with h1|h1|h1
     ·exact h1
     ·subst h1;rw[hl]at z;cases z
     ·rw[a1 k h1 this]at z;cases z
    ·rcases Nat.lt_or_ge k i with h1|h1
     ·rw[a_ k h1]at z;cases z
     ·exact h1
   ·obtain⟨bg,_⟩:=hE.xB ho Z;rw[bg,hF]at hT ab hv;obtain rfl:=aI Z;refine ih _ _ _ _ _ be (h.put hok ho hl al Z (fun e he au=>?_) J (ad i o ho) hT ab fun t ht=>?_)
    ·have:=bc e he au;have:e≠i:=fun h=>Z (by rw[<- h];exact he);omega
    ·rw[U,ht];show SR _ _ _ (dw _ t x t) v
     rw[kF];exact hv
  have ao:∀{x:SV} {f1:Fr} {ks:List Nat},step g C (some effs) i (E i) (F i) o.op=some (x,f1,ks)->i∉effs->ks=[]:=fun{x f1 ks} D Z=>by
   unfold step at D;simp only[iq.2 Z]at D;exact(xA D).2
  unfold wpOpIn;simp only[ho];unfold oF at D
  cases hg:o.guard with
  |none=>
   rw[hg]at D;obtain⟨x,ks,D,U⟩:=D;rw[if_pos (by simp[Region.wanted,hg])];exact(iL hS D κ L a w ap bd).wpIn fun v w' ⟨L',hT,ab,hv⟩=>next v w' L' x ks hT ab hv U (ao D)
  |some gj=>
   obtain⟨j,aD⟩:=gj;rw[hg]at D;obtain⟨bm,bw⟩:=ak j (hok.guard i o j aD ho hg)
   have bf:∀W,cX ops (E i) j aD=some W->Region.wanted o (yielded ops a.tmps)=W:=fun W hW=>oE (A:=MA κ.M (F b) L) (L:=L) (w:=w) hg hW fun d aw=>by
    cases an:ops[j]? with
    |none=>rw[an]at aw;cases aw
    |some oj=>
     rw[an]at aw;have aH:oj.dst=some d:=aw;refine⟨?_,by rw[h.hn];exact ad j oj an d aH⟩;refine h.slot hok hE al (by omega) hm (fun k ok G aE hd z=>?_) (fun k ok G aE hd z=>?_)
     ·rcases Nat.lt_or_ge k j with h1|h1
      ·omega
      ·rcases Nat.eq_or_lt_of_le h1 with h2|h2
       ·omega
       ·exact absurd aH (hok.dst j oj k ok d an G (by omega) hd)
     ·by_cases a6:k=j
      ·subst a6;rw[bm]at z;cases z
      ·exact absurd aH (hok.dst j oj k ok d an G a6 hd)
   rcases D with⟨hW,x,ks,D,U⟩|⟨hW,aL,U⟩
   ·rw[bf _ hW,if_pos rfl];exact(iL hS D κ L a w ap bd).wpIn fun v w' ⟨L',hT,ab,hv⟩=>next v w' L' (.aS x) ks hT ab (.aS _ _ hv) U (ao D)
   ·rw[bf _ hW,if_neg (by simp)];exact⟨fun _ _=>trivial,next undef w L .no [] (by rw[aL];exact Tr.refl) (by rw[aL];exact ap) .no U (fun _=>rfl)⟩
end
def oG(g:Cfg)(C:CallF)(effs:List Nat)(ops:Array Oper)(i:Nat)(o:Oper)(E:Env)(F:Fr)(E':Env)(v:Fr):Prop:=
 rE effs ops E i=true/\match o.guard with
 |none=>∃x,step g C (some effs) i E F o.op=some (x,v,[])/\E'=aK E o.dst x
 |some (j,u)=>(cX ops E j u=some true/\∃x,step g C (some effs) i E F o.op=some (x,v,[])/\E'=aK E o.dst (.aS x))\/(cX ops E j u=some false/\v=F/\E'=aK E o.dst .no)
theorem xE{g:Cfg}{C:CallF}{effs:List Nat}{ops:Array Oper}{env':Env}{fr':Fr}:∀(l:List Oper) (n:Nat) (env:Env) (fr:Fr),gI g C effs ops n l env fr=some (env',fr')->
  ∃(E:Nat->Env) (F:Nat->Fr),E 0=env/\F 0=fr/\(∀i o,l[i]?=some o->oG g C effs ops (n+i) o (E i) (F i) (E (i+1)) (F (i+1)))/\E l.length=env'/\F l.length=fr'
 |[],n,env,fr,h=>by
  unfold gI at h;cases h;exact⟨fun _=>env',fun _=>fr',rfl,rfl,fun i o V=>by simp at V,rfl,rfl⟩
 |o::l,n,env,fr,h=>by
  have:∃D u,oG g C effs ops n o env fr D u/\gI g C effs ops (n+1) l D u=some (env',fr'):=by
   unfold gI at h;unfold oG;split at h
   ·cases h
   ·rename_i v;split at h
    ·rename_i I;rw[I];split at h
     ·rename_i x u y;exact⟨_,u,⟨v,x,y,rfl⟩,h⟩
     ·cases h
    ·rename_i j J I;rw[I];split at h
     ·cases h
     ·rename_i G;split at h
      ·rename_i x u y;exact⟨_,u,⟨v,.inl ⟨G,x,y,rfl⟩⟩,h⟩
      ·cases h
     ·rename_i G;exact⟨_,_,⟨v,.inr ⟨G,rfl,rfl⟩⟩,h⟩
  obtain⟨D,u,h1,h2⟩:=this;obtain⟨E,F,U,a2,a3,a4,a5⟩:=xE l (n+1) D u h2;refine⟨fun i=>match i with|0=>env|i+1=>E i,fun i=>match i with|0=>fr|i+1=>F i,rfl,rfl,fun i Z z=>?_,a4,a5⟩
  cases i with
  |zero=>cases z;show oG g C effs ops (n+0) _ env fr (E 0) (F 0);rw[U,a2];exact h1
  |succ i=>
   have:=a3 i Z (by simpa using z);rw[Nat.add_assoc,Nat.add_comm 1 i]at this;exact this
def Ht{P:Program}{t:Nat}{x:SV}{fr fr':Fr}(hv:∀b p k,x≠.lr b p k)(h:∀b,((∃j,x=.lp b j)\/∃sz k j,x=.le b sz k j)->fr[b]?=fr'[b]?):fv P fr t x=fv P fr' t x:=by
 unfold fv
 cases x with
 |lp i j=>simp only[h i (.inl ⟨j,rfl⟩)]
 |le i sz k j=>simp only[h i (.inr ⟨sz,k,j,rfl⟩)]
 |lr b p k=>exact absurd rfl (hv b p k)
 |t y=>cases y <;>rfl
 |_=>rfl
def Hu{P:Program}{t:Nat}{x i:SV}{fr fr':Fr}(hv:(∀b sz a n,x≠.lv b sz a n)/\∀b p,x≠.lo b p)(h:∀b,x=.ls b->fr[b]?=fr'[b]?):i_ P fr t x i=i_ P fr' t x i:=by
 unfold i_
 cases x with
 |lv b sz a n=>exact absurd rfl (hv.1 b sz a n)
 |lo b p=>exact absurd rfl (hv.2 b p)
 |ls r=>simp only[h r rfl]
 |t y=>cases y <;>rfl
 |_=>rfl
def Hv{env:Env}{t:Nat}{y:Operand}{u:List Nat}(h:dZ env (.load t y)=some u):∀b,(((∃j,rd env y=.lp b j)\/∃sz k j,rd env y=.le b sz k j)->u=[b]):=by
 intro b v;have h:(match rd env y with|.lp i _=>some [i]|.le i _ _ _=>some [i]|.lr ..=>none|_=>some [])=some u:=h;rcases v with⟨j,e⟩|⟨sz,k,j,e⟩
 ·rw[e]at h;cases h;rfl
 ·rw[e]at h;cases h;rfl
def Bn{env:Env}{t:Nat}{y:Operand}{z:List Nat}(h:dZ env (.load t y)=some z):∀b∈z,(∃j,rd env y=.lp b j)\/∃sz k j,rd env y=.le b sz k j:=by
 intro b v;have h:(match rd env y with|.lp i _=>some [i]|.le i _ _ _=>some [i]|.lr ..=>none|_=>some [])=some z:=h
 cases u:rd env y with
 |lp i j=>
   rw[u]at h;cases h;obtain rfl:b=i:=by simpa using v
   exact .inl ⟨j,rfl⟩
 |le i sz k j=>
   rw[u]at h;cases h;obtain rfl:b=i:=by simpa using v
   exact .inr ⟨sz,k,j,rfl⟩
 |lr i p k=>rw[u]at h;cases h
 |_=>rw[u]at h;cases h;cases v
def Hw{env:Env}{t:Nat}{y:Operand}{u:List Nat}(h:dZ env (.load t y)=some u):∀b p k,rd env y≠.lr b p k:=fun b p k e=>by
 have h:(match rd env y with|.lp i _=>some [i]|.le i _ _ _=>some [i]|.lr ..=>none|_=>some [])=some u:=h;rw[e]at h;cases h
def xF{env:Env}{t:Nat}{x i:Operand}{v:List Nat}(h:dZ env (.indexAddr t x i)=some v):(∀b,rd env x=.ls b->v=[b])/\∀b∈v,rd env x=.ls b:=by
 have h:(match rd env x with|.ls i=>some [i]|.lv ..=>none|.lo ..=>none|_=>some [])=some v:=h;refine⟨fun b e=>by rw[e]at h;cases h;rfl,fun b y=>?_⟩
 cases u:rd env x with
 |ls i=>
   rw[u]at h;cases h;obtain rfl:b=i:=by simpa using y
   rfl
 |lv b sz a n=>rw[u]at h;cases h
 |lo b p=>rw[u]at h;cases h
 |_=>rw[u]at h;cases h;cases y
def Hx{env:Env}{t:Nat}{x i:Operand}{u:List Nat}(h:dZ env (.indexAddr t x i)=some u):(∀b sz a n,rd env x≠.lv b sz a n)/\∀b p,rd env x≠.lo b p:=by
 have h:(match rd env x with|.ls i=>some [i]|.lv ..=>none|.lo ..=>none|_=>some [])=some u:=h;refine⟨fun b sz a n e=>?_,fun b p e=>?_⟩
 ·rw[e]at h;cases h
 ·rw[e]at h;cases h
def xG{env:Env}{b:BinOp}{xt yt:TypeId}{x y:Operand}{u:List Nat}(h:dZ env (.binOp b xt x y yt)=some u):u=[]/\∀i,rd env x≠.ls i:=by
 have h:(match rd env x with|.ls _=>none|_=>some [])=some u:=h
 cases v:rd env x with
 |ls i=>rw[v]at h;cases h
 |_=>rw[v]at h;cases h;exact⟨rfl,fun i e=>by cases e⟩
def Hy{P:Program}{b:BinOp}{t:Nat}{s s':SV}{fr fr':Fr}(h:∀i,s≠.ls i):pJ P fr b t s s'=pJ P fr' b t s s':=by
 unfold pJ
 cases s with
 |ls i=>exact absurd rfl (h i)
 |lv i sz a n=>cases s' <;>cases n <;>rfl
 |_=>rfl
theorem rV{fr:Fr}:∀{cs:List SV},cs.all jd=true->bo fr cs=[]
 |[],_=>rfl
 |c::cs,h=>by
  rw[List.all_cons,Bool.and_eq_true]at h;rw[bo,rV h.2];cases c <;>first|rfl|(have h1:false=true:=h.1;cases h1)
def xH{env:Env}{c:Call}{z:List Nat}(h:dZ env (.call c)=some z):z=[]/\∃f args tys g pa y,c=⟨.value f,args,tys⟩/\dR (rd env f)=some (g,pa,y)/\(pa++args.toList.map (rd env)++y).all jd=true:=by
 obtain⟨u,args,tys⟩:=c;cases u
 case value f=>
  unfold dZ at h;simp only at h;split at h
  ·rename_i g pa y D;split at h
   ·rename_i v;cases h;exact⟨rfl,f,args,tys,g,pa,y,rfl,D,v⟩
   ·cases h
  ·cases h
 all_goals(have h:none=some z:=h;cases h)
theorem Bo{fr fr':Fr}:∀{l:List SV},l.all jd=true->cz fr l=cz fr' l
 |[],_=>rfl
 |c::l,h=>by
  rw[List.all_cons,Bool.and_eq_true]at h;rw[cz,cz,Bo (fr':=fr') h.2];cases c <;>first|rfl|(have h1:false=true:=h.1;cases h1)
theorem xI:∀(bs:List Bool) {l:List SV},l.all jd=true->(bi bs l).all jd=true
 |[],l,h=>by cases l <;>rfl
 |b::_,[],h=>by cases b <;>rfl
 |b::bs,c::l,h=>by
  rw[List.all_cons,Bool.and_eq_true]at h;have u:=xI bs h.2
  cases b with
  |true=>exact u
  |false=>show((c::bi bs l).all jd)=true;rw[List.all_cons,h.1,u];rfl
def Hz{g:Cfg}{C:CallF}{fr u:Fr}{f:Nat}{args:List SV}{x:SV}{ks:List Nat}(v:args.all jd=true)(h:il g C true fr f args=some (x,fr,ks)):il g C true u f args=some (x,u,ks):=by
 have I:=xI (aM g f 0 args) v;unfold il at h⊢;rw[Bo (fr':=u) I]at h;rw[rV I]at h⊢;split at h
 ·cases h
 ·rename_i xs D
  try simp only[D]
  split at h
  ·rename_i U
   try simp only[U]
   split at h
   ·cases h
   ·rename_i r Z J
    try simp only[J]
    split at h
    ·rename_i z;cases h
     try simp only[z]
    ·rename_i z
     try simp only[z]
     try simp only at h
     split at h
     ·rename_i G;cases h;simp only[G]
     ·rename_i G;split at h
      ·rename_i y V;cases h;first|simp only[V]|(split <;>simp_all)
      ·cases h
  ·cases h
def Bp{g:Cfg}{C:CallF}{env:Env}{op:Op}{I:List Nat}{fr u:Fr}{x:SV}(hc:mz op=true)(z:dZ env op=some I)(hx:io g C env fr op=some (x,fr,[])):io g C env u op=some (x,u,[]):=by
 cases op with
 |makeSlice t l c=>
  unfold io at hx⊢;simp only[mz]at hx⊢;unfold bU rA at hx⊢;simp only at hx⊢;split at hx
  ·rename_i G;cases hx;simp only[G]
  ·cases hx
 |call c=>
  obtain⟨_,U,D,J,fn,V,Z,rfl,y,v⟩:=xH z;unfold io at hx⊢;simp only[mz]at hx⊢;unfold bU my at hx⊢;simp only[y]at hx⊢;exact Hz v hx
 |_=>cases hc
def Bq{P:Program}{env:Env}{op:Op}{v:List Nat}{fr fr':Fr}(h:dZ env op=some v)(ha:∀b∈v,fr[b]?=fr'[b]?):bG P fr env op=bG P fr' env op:=by
 cases op
 case load t y=>exact Ht (Hw h) fun b z=>ha b (by rw[Hv h b z];simp)
 case binOp b I x y J=>
  have:=Hy (P:=P) (b:=b) (t:=I) (s':=rd env y) (fr:=fr) (fr':=fr') (xG h).2;unfold bG;simp only[this]
 case indexAddr t x i=>exact Hu (Hx h) fun b z=>ha b (by rw[(xF h).1 b z];simp)
 case call c=>
  obtain⟨u,D,G⟩:=c;cases u
  case value f=>rfl
  all_goals(have h:none=some v:=h;cases h)
 all_goals first
  |rfl
  |(have h:none=some v:=h;cases h)
def Br{P:Program}{env:Env}{op:Op}{z:List Nat}{fr:Fr}{x:SV}(h:dZ env op=some z)(hx:bG P fr env op=some x):∀b∈z,b <fr.length:=by
 intro b u;cases op
 case load t y=>
  have hx:fv P fr t (rd env y)=some x:=hx;unfold fv at hx
  cases v:fr[b]? with
  |some D=>exact aF v
  |none=>
   rcases Bn h b u with⟨j,e⟩|⟨sz,k,j,e⟩
   ·simp only[e,v]at hx;split at hx <;>cases hx
   ·simp only[e,v]at hx;split at hx <;>cases hx
 case indexAddr t y i=>
  have hx:i_ P fr t (rd env y) (rd env i)=some x:=hx;unfold i_ at hx
  cases v:fr[b]? with
  |some D=>exact aF v
  |none=>
   simp only[(xF h).2 b u,v]at hx
   repeat'(split at hx)
   all_goals first|(cases hx;done)|contradiction
 case binOp G I x y J=>rw[(xG h).1]at u;cases u
 case call c=>rw[(xH h).1]at u;cases u
 all_goals first
  |(have h:some []=some z:=h;cases h;cases u;done)
  |(have h:none=some z:=h;cases h)
def Bs{op:Op}{e z:Env}(h:∀y∈op.operands,du e y=du z y):dZ e op=dZ z op:=by
 cases op
 case load t y=>unfold dZ;simp only[rd,h y (by simp[Op.operands])]
 case binOp b U x y V=>unfold dZ;simp only[rd,h x (by simp[Op.operands])]
 case indexAddr t x i=>unfold dZ;simp only[rd,h x (by simp[Op.operands])]
 case call c=>
  obtain⟨u,v,J⟩:=c;cases u
  case value f=>
   have D:rd e f=rd z f:=congrArg un (h f (by simp[Op.operands,Call.operands]));have G:v.toList.map (rd e)=v.toList.map (rd z):=List.map_congr_left fun y I=>congrArg un (h y (by simp only[Op.operands,Call.operands];simp;exact .inr (by simpa using I)));unfold dZ;simp only[D,G]
  all_goals rfl
 all_goals rfl
def HA{op:Op}{e z:Env}(h:∀y∈op.operands,du e y=du z y):fJ e op=fJ z op:=by
 cases op
 case store t a x=>unfold fJ;simp only[rd,h a (by simp[Op.operands]),h x (by simp[Op.operands])]
 case call c=>
  obtain⟨v,u,V⟩:=c;cases v
  case builtin b=>
   cases b
   case copy=>
    unfold fJ
    cases D:u.toList with
    |nil=>simp only[D]
    |cons x l=>
     have J:du e x=du z x:=h x (by
      have:x∈u.toList:=by rw[D];simp
      simp only[Op.operands,Call.operands];simpa using this)
     cases l with
     |nil=>simp only[D]
     |cons y l=>cases l <;>simp only[D,rd,J]
   all_goals rfl
  case value f=>
   have G:rd e f=rd z f:=congrArg un (h f (by simp[Op.operands,Call.operands]));have I:u.toList.map (rd e)=u.toList.map (rd z):=List.map_congr_left fun y U=>congrArg un (h y (by simp only[Op.operands,Call.operands];simp;exact .inr (by simpa using U)));unfold fJ;simp only[G,I]
  all_goals rfl
 all_goals rfl
theorem Bt:∀(bs:List Bool) {l:List SV},l.all jd=true->ew bs l=[]
 |[],l,h=>by cases l <;>rfl
 |b::_,[],h=>by cases b <;>rfl
 |b::bs,c::l,h=>by
  rw[List.all_cons,Bool.and_eq_true]at h;have u:=Bt bs h.2
  cases b with
  |false=>exact u
  |true=>
   show c.refs++ew bs l=[]
   rw[u];cases c <;>first|rfl|(have h1:false=true:=h.1;cases h1)
def HB{g:Cfg}{C:CallF}{env:Env}{fr fr':Fr}{op:Op}{x:SV}{ks wl:List Nat}(h:fJ env op=some wl)(hx:cr g C env fr op=some (x,fr',ks)):∀b,b∉wl->b <fr.length->fr'[b]?=fr[b]?:=by
 cases op
 case alloc T=>
  unfold cr bU at hx;simp only[im]at hx;split at hx
  ·cases hx;intro b _ D;exact List.getElem?_append_left D
  ·cases hx
 case box T y=>
  unfold cr bU at hx;simp only[im]at hx;split at hx
  ·cases hx;intro b _ D;exact List.getElem?_append_left D
  ·cases hx
 case makeSlice t l c=>
  unfold cr bU ik at hx;simp only[im]at hx
  repeat'(split at hx)
  all_goals first
   |(cases hx;intro b _ D;exact List.getElem?_append_left D)
   |(cases hx;done)
 case store t a y=>
  unfold cr bU gH at hx;simp only[im]at hx;unfold fJ at h;intro b D I;split at hx
  ·cases hx
  ·split at hx
   ·cases hx
   ·cases Z:rd env a with
    |lp i j=>
     simp only[Z]at h hx;cases h;split at hx
     ·split at hx
      ·cases hx;exact List.getElem?_set_ne (by intro e;exact D (by simp[e]))
      ·cases hx
     ·cases hx
    |le i sz k j=>
     simp only[Z]at h hx;split at h
     ·rename_i z;cases h;split at hx
      ·split at hx
       ·cases hx
       ·split at hx
        ·cases hx
        ·split at hx
         ·cases hx
         ·split at hx
          ·cases hx
          ·split at hx
           ·cases hx
           ·cases hx;rw[rV z];exact List.getElem?_set_ne (by intro e;exact D (by simp[e]))
      ·cases hx
     ·cases h
    |_=>simp only[Z]at h;cases h
 case call c=>
  obtain⟨G,ab,ad⟩:=c;cases G
  case builtin b'=>
   cases b'
   case copy=>
    unfold cr bU at hx;simp only[im]at hx;unfold fJ at h;split at hx
    ·rename_i u v t u' hl ht;simp only[hl]at h;intro b D I
     have V:∀(i:Nat),wl=[i]->∀zs sz a n,ns fr zs i sz a n=some (x,fr',ks)->fr'[b]?=fr[b]?:=fun i hi zs sz a n J=>by
      unfold ns at J;split at J
      ·split at J
       ·cases J;exact List.getElem?_set_ne (by intro e;exact D (by simp[hi,e]))
       ·cases J
      ·cases J
     unfold ky at hx;split at hx
     ·cases hx
     ·split at hx
      ·cases hx
      ·split at hx
       ·cases hx
       ·split at hx
        ·rename_i hu;simp only[hu]at h;cases h;split at hx
         ·exact V _ rfl _ _ _ _ hx
         ·cases hx
        ·rename_i hu;simp only[hu]at h;cases h;split at hx
         ·exact V _ rfl _ _ _ _ hx
         ·cases hx
        ·cases hx
    ·cases hx
   all_goals(unfold fJ at h;cases h)
  case value f=>
   unfold cr bU my at hx;simp only[im]at hx;unfold fJ at h;simp only at h;split at h
   ·rename_i f' pa qa U;simp only[U]at hx;split at h
    ·rename_i z;intro b _ I;unfold il at hx;rw[Bt _ z,rV (xI _ z)]at hx;split at hx
     ·cases hx
     ·have e0:cx [] ([]:List Nat)=[]:=rfl;rw[e0]at hx;simp only at hx;split at hx
      ·cases hx
      ·split at hx
       ·cases hx;rfl
       ·cases hx;exact List.getElem?_append_left I
    ·cases h
   ·cases h
  all_goals(unfold fJ at h;cases h)
 all_goals(unfold fJ at h;cases h)
def HC{ops:Array Oper}{op:Op}{j m:Nat}(h:rD ops op j m=true){t:Nat}(ht:.tmp t∈op.operands):∀(q:Nat) (u:Oper),j<=q->q <m->ops[q]?=some u->u.dst≠some t:=by
 intro q u D y z hd;have h1:=List.all_eq_true.1 h q (List.mem_range.2 y);have v:Nat.blt q j=false:=by rw[<- Bool.not_eq_true,Nat.blt_eq];omega
 rw[v,z]at h1;simp only[hd,Bool.false_or,Bool.not_eq_true']at h1
 have:t∈wS op:=by
  unfold wS;rw[List.mem_filterMap];exact⟨.tmp t,Array.mem_toList_iff.2 ht,rfl⟩
 exact absurd this (iq.1 h1)
def xJ{w r:Option (List Nat)}(h:tV w r=true):∃v u,w=some v/\r=some u/\∀b∈u,b∉v:=by
 unfold tV at h;split at h
 ·rename_i v u;refine⟨v,u,rfl,rfl,fun b y z=>?_⟩;have:=List.all_eq_true.1 h b z;rw[Bool.not_eq_true']at this;exact iq.1 this y
 ·cases h
section
variable {g:Cfg} {γ:Glob} {κ:Ctx} {C:CallF} {ops:Array Oper} {effs:List Nat} {n:Nat} {E:Nat->Env} {F:Nat->Fr}
abbrev jg(g:Cfg)(C:CallF)(ops:Array Oper)(effs:List Nat)(E:Nat->Env)(F:Nat->Fr):Prop:=∀(i:Nat) (o:Oper),ops[i]?=some o->oG g C effs ops i o (E i) (F i) (E (i+1)) (F (i+1))
abbrev nC(g:Cfg)(C:CallF)(ops:Array Oper)(effs:List Nat)(E:Nat->Env)(F:Nat->Fr)(B:Nat):Prop:=B<=ops.size/\∀(i:Nat) (o:Oper),i <B->ops[i]?=some o->oG g C effs ops i o (E i) (F i) (E (i+1)) (F (i+1))
def uv(u:jg g C ops effs E F):nC g C ops effs E F ops.size:=⟨Nat.le_refl _,fun i o _ v=>u i o v⟩
variable {B:Nat}
theorem xK(u:nC g C ops effs E F B)(t j:Nat):∀i,j<=i->i<=B->(∀(k:Nat) (o:Oper),j<=k->k <i->ops[k]?=some o->o.dst≠some t)->E i t=E j t
 |0,h,_,_=>by
   obtain rfl:j=0:=by omega
   rfl
 |i+1,h,I,y=>by
  rcases Nat.lt_or_ge i j with h1|h1
  ·obtain rfl:j=i+1:=by omega
   rfl
  ·have G:=u.1;have z:=Array.getElem?_eq_getElem (xs:=ops) (i:=i) (by omega);have hd:=y i _ h1 (by omega) z
   have e:E (i+1) t=E i t:=by
    have:=(u.2 i _ (by omega) z).2;split at this
    ·obtain⟨x,_,h2⟩:=this;rw[h2,p5 hd]
    ·rcases this with⟨_,x,_,h2⟩|⟨_,_,h2⟩
     ·rw[h2,p5 hd]
     ·rw[h2,p5 hd]
   rw[e];exact xK u t j i h1 (by omega) fun k o v D=>y k o v (by omega)
def oH(u:jg g C ops effs E F)(t j:Nat)(i:Nat)(h:j<=i)(hi:i<=ops.size)(hk:∀(k:Nat) (o:Oper),j<=k->k <i->ops[k]?=some o->o.dst≠some t):E i t=E j t:=xK (uv u) t j i h hi hk
def xL(v:nC g C ops effs E F B){i:Nat}(hi:i <B)(hn:i∉effs):F (i+1)=F i:=by
 have y:=v.1;have:=(v.2 i _ hi (Array.getElem?_eq_getElem (by omega))).2
 have u:∀{op x},step g C (some effs) i (E i) (F i) op=some (x,F (i+1),[])->F (i+1)=F i:=fun{op x} h=>by
  unfold step at h;simp only[iq.2 hn]at h;exact(xA h).1
 split at this
 ·obtain⟨x,h2,_⟩:=this;exact u h2
 ·rcases this with⟨_,x,h2,_⟩|⟨_,h2,_⟩
  ·exact u h2
  ·exact h2
theorem uw(u:nC g C ops effs E F B)(j:Nat):∀i,j<=i->i<=B->(∀m,j<=m->m <i->m∉effs)->F i=F j
 |0,h,_,_=>by
   obtain rfl:j=0:=by omega
   rfl
 |i+1,h,y,v=>by
  rcases Nat.lt_or_ge i j with h1|h1
  ·obtain rfl:j=i+1:=by omega
   rfl
  ·rw[xL u (by omega) (v i h1 (by omega))];exact uw u j i h1 (by omega) fun m h2 h3=>v m h2 (by omega)
def ux(u:jg g C ops effs E F)(j:Nat)(i:Nat)(h:j<=i)(hi:i<=ops.size)(hm:∀m,j<=m->m <i->m∉effs):F i=F j:=uw (uv u) j i h hi hm
theorem xM(u:nC g C ops effs E F B)(s b:Nat)(hb:b <(F s).length):∀e,s<=e->e<=B->(∀(m:Nat) (v:Oper),s<=m->m <e->m∈effs->ops[m]?=some v->∃U,fJ (E m) v.op=some U/\b∉U)->(F e)[b]?=(F s)[b]?
 |0,h,_,_=>by
   obtain rfl:s=0:=by omega
   rfl
 |e+1,h,he,hw=>by
  rcases Nat.lt_or_ge e s with h1|h1
  ·obtain rfl:s=e+1:=by omega
   rfl
  ·have hB:=u.1;have J:=xM u s b hb e h1 (by omega) fun m v h2 h3=>hw m v h2 (by omega);rw[<- J];by_cases D:e∈effs
   ·have Z:=Array.getElem?_eq_getElem (xs:=ops) (i:=e) (by omega);obtain⟨U,I,G⟩:=hw e _ h1 (by omega) D Z
    have z:b <(F e).length:=by
     obtain⟨lb,y⟩:=am hb;rw[y]at J;exact aF J
    have V:∀{x},step g C (some effs) e (E e) (F e) (ops[e]'(by omega)).op=some (x,F (e+1),[])->(F (e+1))[b]?=(F e)[b]?:=fun{x} h=>by
     unfold step at h
     have hh:bT effs e=true:=by
      rw[<- Bool.not_eq_false];exact fun hf=>iq.1 hf D
     simp only[hh]at h;exact HB I h b G z
    have:=(u.2 e _ (by omega) Z).2;split at this
    ·obtain⟨x,h2,_⟩:=this;exact V h2
    ·rcases this with⟨_,x,h2,_⟩|⟨_,h2,_⟩
     ·exact V h2
     ·rw[h2]
   ·rw[xL u (by omega) D]
def xN(D:nC g C ops effs E F B){op:Op}{j m:Nat}(u:j<=m)(hm:m<=B)(h:rD ops op j m=true):∀y∈op.operands,du (E m) y=du (E j) y:=by
 intro y I
 cases y with
 |tmp t=>exact xK D t j m u hm fun k o G v z=>HC h I k o G v z
 |_=>rfl
def HD(v:jg g C ops effs E F){op:Op}{j m:Nat}(u:j<=m)(hm:m<=ops.size)(h:rD ops op j m=true):∀y∈op.operands,du (E m) y=du (E j) y:=xN (uv v) u hm h
structure kH (γ:Glob) (κ:Ctx) (ops:Array Oper) (effs:List Nat) (n:Nat) (E:Nat->Env) (F:Nat->Fr) (p:Nat) (L:Ls) (listed:Array Bool) (a:Act) (w:World):Prop where
 hd:Marks κ w a.defers
 hn:a.tmps.size=n
 hs:listed.size=ops.size
 hp:p<=ops.size
 low:∀e∈effs,e <p->listed.getD e true=true
 rW:∀e∈effs,p<=e->e <ops.size->listed.getD e true=false
 bF:av γ κ (F p) L w
 done:∀(k:Nat) (o:Oper) (t:Nat),ops[k]?=some o->o.dst=some t->listed.getD k true=true->SR (MA κ.M (F p) L) L w (E (k+1) t) (a.tmps.getD t undef)
 rest:∀(t:Nat),(∀(k:Nat) (o:Oper),ops[k]?=some o->o.dst=some t->listed.getD k true=false)->SR (MA κ.M (F p) L) L w (E 0 t) (a.tmps.getD t undef)
 eB:∀(k:Nat) (o:Oper),ops[k]?=some o->listed.getD k true=true->∀e∈o.after,Region.binds .any e=true->listed.getD e.on false=true
variable {p:Nat} {L:Ls} {listed:Array Bool} {a:Act} {w:World} {E':Nat->Env}
def kH.start(hd:Marks κ w a.defers)(hn:a.tmps.size=n)(z:av γ κ (F 0) L w)(D:∀t,SR (MA κ.M (F 0) L) L w (E 0 t) (a.tmps.getD t undef)):kH γ κ ops effs n E F 0 L (Array.replicate ops.size false) a w where
 hd:=hd
 hn:=hn
 hs:=by simp
 hp:=Nat.zero_le _
 low:=fun e _ h=>by omega
 rW:=fun e _ _ G=>by rw[Array.getD_eq_getD_getElem?,Array.getElem?_replicate,if_pos G];rfl
 bF:=z
 done:=fun k o t y _ u=>by
  have v:=(Array.getElem?_eq_some_iff.1 y).1;rw[Array.getD_eq_getD_getElem?,Array.getElem?_replicate,if_pos v]at u;cases u
 rest:=fun t _=>D t
 eB:=fun k o y u=>by
  have v:=(Array.getElem?_eq_some_iff.1 y).1;rw[Array.getD_eq_getD_getElem?,Array.getElem?_replicate,if_pos v]at u;cases u
def kH.mG(h:kH γ κ ops effs n E F p L listed a w){i k:Nat}(ha:gK ops i k):(∀(o:Oper),ops[i]?=some o->∀e∈o.after,Region.binds .any e=true->listed.getD e.on false=true)->listed.getD k true=true:=by
 induction ha with
 |one i o e z v u=>intro y;exact gL (y o z e v u)
 |more i k o e z v u ha G=>
  intro y;have h1:=gL (y o z e v u);exact G fun I D=>h.eB e.on I D h1
def kH.slot(hok:xy ops effs)(I:jg g C ops effs E F)(h:kH γ κ ops effs n E F p L listed a w){i t:Nat}(hi:i<=ops.size)
  (h1:∀(k:Nat) (ok:Oper),ops[k]?=some ok->ok.dst=some t->listed.getD k true=true->k <i)(h2:∀(k:Nat) (ok:Oper),ops[k]?=some ok->ok.dst=some t->listed.getD k true=false->i<=k):SR (MA κ.M (F p) L) L w (E i t) (a.tmps.getD t undef):=by
 by_cases v:∃(k:Nat) (ok:Oper),ops[k]?=some ok/\ok.dst=some t/\listed.getD k true=true
 ·obtain⟨k,ok,u,hd,z⟩:=v;have D:=h1 k ok u hd z;rw[oH I t (k+1) i (by omega) hi fun m V J U G=>hok.dst m V k ok t G u (by omega) hd];exact h.done k ok t u hd z
 ·have y:∀(k:Nat) (o:Oper),ops[k]?=some o->o.dst=some t->listed.getD k true=false:=fun k o u hd=>by
   rw[<- Bool.not_eq_true];exact fun z=>v ⟨k,o,u,hd,z⟩
  rw[oH I t 0 i (Nat.zero_le _) hi fun k o _ D u hd=>by have:=h2 k o u hd (y k o u hd);omega];exact h.rest t y
def Bu(hok:DrawB ops){listed:Array Bool}(hs:listed.size=ops.size)(hr:Region.ready .any ops listed=[]):∀k,k <ops.size->listed.getD k true=true:=by
 intro k
 induction k using Nat.strongRecOn with
 |_ k ih=>
  intro v;rw[<- Bool.not_eq_false];intro G
  have y:k∈Region.ready .any ops listed:=mem_ready.2 ⟨G,ops[k],Array.getElem?_eq_getElem v,fun e D z=>by
   have u:=hok.back k _ (Array.getElem?_eq_getElem v) e D z;exact xz (by rw[hs];omega) (ih e.on u (by omega))⟩
  rw[hr]at y;cases y
def HE{fr:Fr}{env:Env}{op:Op}{z:List Nat}(D:av γ κ fr L w)(h:dZ env op=some z)(G:∀y∈op.operands,SR (MA κ.M fr L) L w (du env y) (a.eval y)):∀b∈z,b <fr.length:=by
 have v:∀y∈op.operands,∀b,(∃j,rd env y=.lp b j)\/(∃sz k j,rd env y=.le b sz k j)\/rd env y=.ls b->b <fr.length:=fun y I b u=>by
  have h1:=b_ (G y I);rcases u with⟨j,u⟩|⟨sz,k,j,u⟩|u
  ·rw[u]at h1;obtain⟨g,h2,_⟩:=j_ h1;exact D.lim _ _ h2
  ·rw[u]at h1;obtain⟨_,_,_,h2,_⟩:=oo h1;exact D.lim _ _ h2
  ·rw[u]at h1;obtain⟨h2,_⟩:=jb h1;exact D.lim _ _ h2
 intro b u;cases op
 case load t y=>
  refine v y (by simp[Op.operands]) b ?_;rcases Bn h b u with⟨j,e⟩|⟨sz,k,j,e⟩
  ·exact .inl ⟨j,e⟩
  ·exact .inr (.inl ⟨sz,k,j,e⟩)
 case indexAddr t x i=>exact v x (by simp[Op.operands]) b (.inr (.inr ((xF h).2 b u)))
 case binOp J U x y V=>rw[(xG h).1]at u;cases u
 case call c=>rw[(xH h).1]at u;cases u
 all_goals first
  |(have h:some []=some z:=h;cases h;cases u;done)
  |(have h:none=some z:=h;cases h)
def HF(Z:nC g C ops effs E F B)(h:kH γ κ ops effs n E' F p L listed a w){i:Nat}{o:Oper}(ho:ops[i]?=some o)(hl:listed.getD i true=false)(G:i∉effs){m:Nat}{U:Oper}(h1:i <m)(h2:m <p)(I:m <B)(h3:m∈effs)(u:ops[m]?=some U):∃z y,fJ (E m) U.op=some z/\dZ (E i) o.op=some y/\∀b∈y,b∉z:=by
 have D:((Region.before ops).getD m 0).testBit i=false:=by
  rw[<- Bool.not_eq_true];intro D;have:=h.mG (p6 D) fun o' J=>h.eB m o' J (h.low m h3 h2);rw[hl]at this;cases this
 have v:=List.all_eq_true.1 (Z.2 m U I u).1 i (List.mem_range.2 h1);unfold tW at v;have hm:bT effs m=true:=by rw[<- Bool.not_eq_false];exact fun v=>iq.1 v h3
 simp only[u,ho,hm,iq.2 G,D,Bool.false_or,Bool.and_eq_true]at v;obtain⟨z,y,e1,V,e3⟩:=xJ v.2;have ab:=(Array.getElem?_eq_some_iff.1 u).1;rw[Bs (xN Z (by omega) (by omega) v.1)]at V;exact⟨z,y,e1,V,e3⟩
def HG(G:nC g C ops effs E F B)(h:kH γ κ ops effs n E' F p L listed a w)(hp:p<=B){i:Nat}{o:Oper}(ad:i <B)(ho:ops[i]?=some o)(hl:listed.getD i true=false)(v:i∉effs)(I:∀k,gK ops i k->listed.getD k true=true)
  (aD:∀y∈o.op.operands,SR (MA κ.M (F p) L) L w (du (E i) y) (a.eval y)){x:SV}(hx:step g C (some effs) i (E i) (F i) o.op=some (x,F (i+1),[])):step g C (some effs) i (E i) (F p) o.op=some (x,F p,[]):=by
 have hB:=G.1;have aH:=hx;unfold step at hx⊢;simp only[iq.2 v]at hx⊢;have au:=xL G ad v;rw[au]at hx
 -- the effects between
 have up:∀(m:Nat) (J:Oper),p<=m->m <i->m∈effs->ops[m]?=some J->∃D U,fJ (E m) J.op=some D/\dZ (E i) o.op=some U/\∀b∈U,b∉D:=fun m J h1 h2 h3 aA=>by
  have V:((Region.before ops).getD i 0).testBit m=false:=by
   rw[<- Bool.not_eq_true];intro V;have:=I m (p6 V);rw[h.rW m h3 h1 (by omega)]at this;cases this
  have hf:=List.all_eq_true.1 (G.2 i o ad ho).1 m (List.mem_range.2 h2);unfold tW at hf;have hm:bT effs m=true:=by rw[<- Bool.not_eq_false];exact fun hf=>iq.1 hf h3
  simp only[aA,ho,hm,iq.2 v,V,Bool.false_or,Bool.and_eq_true]at hf;obtain⟨D,U,e1,e2,e3⟩:=xJ hf.2;rw[HA (xN G (by omega) (by omega) hf.1)]at e1;exact⟨D,U,e1,e2,e3⟩
 have dn:=fun(m:Nat) (J:Oper) (h1:i <m) (h2:m <p) (h3:m∈effs) (h4:ops[m]?=some J)=>HF G h ho hl v h1 h2 (by omega) h3 h4;by_cases ab:∃m,m∈effs/\((p<=m/\m <i)\/(i <m/\m <p))
 ·obtain⟨m,ag,u⟩:=ab;have Z:m <ops.size:=by have:=hp;omega
  obtain⟨_,U,_,z,_⟩:∃D U,fJ (E m) (ops[m]).op=some D/\dZ (E i) o.op=some U/\∀b∈U,b∉D:=by
   rcases u with u|u
   ·exact up m _ u.1 u.2 ag (Array.getElem?_eq_getElem Z)
   ·exact dn m _ u.1 u.2 ag (Array.getElem?_eq_getElem Z)
  cases ak:mz o.op with
  |true=>exact Bp ak z hx
  |false=>
  unfold io at hx⊢;simp only[ak]at hx⊢;obtain⟨al,_,_⟩:=uq hx;have aw:=Br z al
  have ao:∀b∈U,(F i)[b]?=(F p)[b]?:=fun b V=>by
   rcases Nat.lt_or_ge i p with h1|h1
   ·refine(xM G i b (aw b V) p (by omega) hp fun m J h2 h3 h4 h5=>?_).symm;have ay:m≠i:=fun e=>v (by rw[<- e];exact h4);obtain⟨D,aE,e1,e2,e3⟩:=dn m J (by omega) h3 h4 h5;rw[z]at e2;cases e2;exact⟨D,e1,e3 b V⟩
   ·have ap:b <(F p).length:=HE h.bF z aD b V;refine xM G p b ap i h1 (by omega) fun m J h2 h3 h4 h5=>?_;obtain⟨D,aE,e1,e2,e3⟩:=up m J h2 h3 h4 h5;rw[z]at e2;cases e2;exact⟨D,e1,e3 b V⟩
  rw[<- Bq z ao,al];rfl
 ·have an:F i=F p:=by
   rcases Nat.lt_or_ge i p with h1|h1
   ·refine(uw G i p (by omega) hp fun m h2 h3 h4=>?_).symm;have ay:m≠i:=fun e=>v (by rw[<- e];exact h4);exact ab ⟨m,h4,.inr ⟨by omega,h3⟩⟩
   ·exact uw G p i h1 (by omega) fun m h2 h3 h4=>ab ⟨m,h4,.inl ⟨h2,h3⟩⟩
  rw[<- an];exact hx
def HH{rd:Option Nat}{dn:Nat}(hS:fy g.P γ C)(hok:xy ops effs)(bf:lN n ops.toList=true)(hE:jg g C ops effs E F){Q:Exit->Act->World->Prop}
  (hK:∀L a w,Marks κ w a.defers->a.tmps.size=n->av γ κ (F ops.size) L w->(∀t,SR (MA κ.M (F ops.size) L) L w (E ops.size t) (a.tmps.getD t undef))->Q .normal a w):
  ∀(I:Nat) (p:Nat) (L:Ls) (listed:Array Bool) (a:Act) (w:World),fL listed ops.size<=I->kH γ κ ops effs n E F p L listed a w->wpAnyIn (Fw rd) dn g.P .any ops Q I listed a w:=by
 have ay:∀(i:Nat) (o:Oper),ops[i]?=some o->∀d,o.dst=some d->d <n:=fun i o Z d hd=>lO bf (Array.mem_toList_iff.2 (Array.mem_of_getElem? Z)) hd
 have fin:∀(p:Nat) (L:Ls) (listed:Array Bool) (a:Act) (w:World),(∀k,k <ops.size->listed.getD k true=true)->kH γ κ ops effs n E F p L listed a w->Q .normal a w:=fun p L listed a w ad h=>by
  have hm:∀m,p<=m->m <ops.size->m∉effs:=fun m h1 h2 h3=>by
   have:=h.rW m h3 h1 h2;rw[ad m h2]at this;cases this
  have hF:=ux hE p ops.size h.hp (Nat.le_refl _) hm;refine hK L a w h.hd h.hn (by rw[hF];exact h.bF) fun t=>?_;rw[hF]
  exact h.slot hok hE (Nat.le_refl _) (fun k ok D _ _=>(Array.getElem?_eq_some_iff.1 D).1) (fun k ok D _ hl=>by
   have:=ad k (Array.getElem?_eq_some_iff.1 D).1;rw[hl]at this;cases this)
 intro I
 induction I with
 |zero=>
  intro p L listed a w hu h;have ad:=uu (listed:=listed) ops.size (by omega);refine⟨?_,fin p L listed a w ad h⟩
  cases hr:Region.ready .any ops listed with
  |nil=>rfl
  |cons i l=>
   have hm:i∈Region.ready .any ops listed:=by rw[hr];simp
   obtain⟨hl,o,Z,_⟩:=mem_ready.1 hm;have:=ad i (Array.getElem?_eq_some_iff.1 Z).1;rw[hl]at this;cases this
 |succ I ih=>
  intro p L listed a w hu h;refine⟨fun hr=>fin p L listed a w (Bu hok.toDrawB h.hs hr) h,fun i hi=>?_⟩;obtain⟨hl,o,Z,al⟩:=mem_ready.1 hi;have J:=(Array.getElem?_eq_some_iff.1 Z).1;have bO:=hE i o Z
  have bZ:fL (listed.setIfInBounds i true) ops.size<=I:=by
   have:=rU hl ops.size;rw[if_pos J]at this;omega
  have ab:∀k,gK ops i k->listed.getD k true=true:=fun k ha=>h.mG ha fun o' a1=>by rw[Z]at a1;cases a1;exact al
  have an:∀k,ff o k=true->listed.getD k true=true/\k <i:=fun k D=>by
   obtain⟨e,V,hb,rfl⟩:=lP D;exact⟨gL (al e V hb),hok.back i o Z e V hb⟩
  have aH:∀t,(.tmp t∈o.op.operands\/∃j oj,ops[j]?=some oj/\oj.dst=some t/\ff o j=true)->SR (MA κ.M (F p) L) L w (E i t) (a.tmps.getD t undef):=fun t ht=>by
   refine h.slot hok hE (by omega) (fun k ok D hd G=>?_) (fun k ok D hd G=>?_)
   ·have U:k≠i:=fun e=>by subst e;rw[hl]at G;cases G
    rcases ht with hy|⟨j,oj,ag,ap,aA⟩
    ·rcases hok.use i o k ok t Z D U hd hy with h1|h1
     ·exact(an k h1).2
     ·obtain⟨e,V,hb,rfl⟩:=lP h1;have:=gL (h.eB k ok D G e V hb);rw[hl]at this;cases this
    ·by_cases aD:k=j
     ·subst aD;exact(an k aA).2
     ·exact absurd ap (hok.dst j oj k ok t ag D aD hd)
   ·rcases Nat.lt_or_ge k i with aE|aR
    ·rcases ht with hy|⟨j,oj,ag,ap,aA⟩
     ·rcases hok.use i o k ok t Z D (by omega) hd hy with h1|h1
      ·have:=(an k h1).1;rw[G]at this;cases this
      ·obtain⟨e,V,hb,rfl⟩:=lP h1;have:=hok.back k ok D e V hb;omega
     ·by_cases aD:k=j
      ·subst aD;have:=(an k aA).1;rw[G]at this;cases this
      ·exact absurd ap (hok.dst j oj k ok t ag D aD hd)
    ·exact aR
  have bd:∀y∈o.op.operands,SR (MA κ.M (F p) L) L w (du (E i) y) (a.eval y):=fun y hy=>by
   cases y with
   |const v=>exact jJ v
   |global g=>exact .dead _
   |func f=>exact .t _ _ (.fn _ [] #[] #[] rfl (fun j x u hx _=>by simp at hx))
   |tmp t=>exact aH t (.inl hy)
  -- an effect comes up where its turn is
  have a6:i∈effs->F i=F p:=fun z=>by
   have bI:p<=i:=by
    rcases Nat.lt_or_ge i p with h1|h1
    ·have:=h.low i z h1;rw[hl]at this;cases this
    ·exact h1
   refine ux hE p i bI (by omega) fun m h1 h2 h3=>?_;have:=ab m (hok.eff i z m h3 J h2);rw[h.rW m h3 h1 (by omega)]at this;cases this
  -- what an operation that is no effect gives,it gives here too
  have ao:∀{x},step g C (some effs) i (E i) (F i) o.op=some (x,F (i+1),[])->step g C (some effs) i (E i) (F p) o.op=some (x,(if i∈effs then F (i+1)else F p),[]):=fun{x} hx=>by
   by_cases z:i∈effs
   ·rw[if_pos z,<- a6 z];exact hx
   ·rw[if_neg z];exact HG (uv hE) h (by have:=h.hp;omega) J Z hl z ab bd hx
  -- what comes behind this operation,once it is carried out
  have next:∀(v:Value) (w':World) (L':Ls) (x:SV) (f1:Fr),f1=(if i∈effs then F (i+1)else F p)->Tr κ.M (F p) L w f1 L' w' []->av γ κ f1 L' w'->SR (MA κ.M f1 L') L' w' x v->E (i+1)=aK (E i) o.dst x->wpAnyIn (Fw rd) dn g.P .any ops Q I (listed.setIfInBounds i true) (a.put o.dst v) w':=fun v w' L' x f1 bg hT aw hv ak=>by
   obtain⟨q,hq,bN,bl,bc⟩:∃q,f1=F q/\q<=ops.size/\(∀e∈effs,e <q->(listed.setIfInBounds i true).getD e true=true)/\(∀e∈effs,q<=e->e <ops.size->(listed.setIfInBounds i true).getD e true=false):=by
    by_cases z:i∈effs
    ·refine⟨i+1,by rw[bg,if_pos z],J,fun e V aE=>?_,fun e V aR bb=>?_⟩
     ·by_cases au:e=i
      ·subst au;rw[Array.getD_eq_getD_getElem?,Array.getElem?_setIfInBounds_self_of_lt (by rw[h.hs];exact J)];rfl
      ·rw[getD_set_ne true (Ne.symm au)];exact ab e (hok.eff i z e V J (by omega))
     ·rw[getD_set_ne true (by omega),<- Bool.not_eq_true];intro bC;have:=h.mG (hok.eff e V i z bb (by omega)) fun o' a1=>h.eB e o' a1 bC;rw[hl]at this;cases this
    ·refine⟨p,by rw[bg,if_neg z],h.hp,fun e V aE=>?_,fun e V aR bb=>?_⟩
     ·have au:e≠i:=fun e'=>z (by rw[<- e'];exact V);rw[getD_set_ne true (Ne.symm au)];exact h.low e V aE
     ·have au:e≠i:=fun e'=>z (by rw[<- e'];exact V);rw[getD_set_ne true (Ne.symm au)];exact h.rW e V aR bb
   subst hq;refine ih q L' _ _ _ bZ ⟨?_,?_,?_,bN,bl,bc,aw,fun k ok t D hd G=>?_,fun t ht=>?_,fun k ok D G e V be=>?_⟩
   ·rw[put_defers];exact h.hd.tr h.bF hT
   ·rw[bQ,h.hn]
   ·rw[Array.size_setIfInBounds];exact h.hs
   ·by_cases U:k=i
    ·subst U;rw[Z]at D;cases D;rw[ak,hd,fz (by rw[h.hn];exact ay k o Z t hd)];show SR _ _ _ (dw _ t x t) v
     rw[kF];exact hv
    ·rw[ck (hok.dst i o k ok t Z D U hd)];rw[getD_set_ne true (Ne.symm U)]at G;exact hT.sr (h.done k ok t D hd G)
   ·have bj:o.dst≠some t:=fun hd=>by
     have aE:i <listed.size:=by rw[h.hs];exact J
     have:=ht i o Z hd;rw[Array.getD_eq_getD_getElem?,Array.getElem?_setIfInBounds_self_of_lt aE]at this;cases this
    rw[ck bj];refine hT.sr (h.rest t fun k ok D hd=>?_);have U:k≠i:=fun e=>by subst e;rw[Z]at D;cases D;exact bj hd
    have:=ht k ok D hd;rw[getD_set_ne true (Ne.symm U)]at this;exact this
   ·by_cases U:k=i
    ·subst U;rw[Z]at D;cases D;exact getD_set_true (al e V be)
    ·rw[getD_set_ne true (Ne.symm U)]at G;exact getD_set_true (h.eB k ok D G e V be)
  have h2:=bO.2;unfold wpOpIn;simp only[Z]
  cases hg:o.guard with
  |none=>
   rw[hg]at h2;obtain⟨x,aI,ak⟩:=h2;rw[if_pos (by simp[Region.wanted,hg])];exact(iL hS (ao aI) κ L a w h.bF bd).wpIn fun v w' ⟨L',hT,aw,hv⟩=>next v w' L' x _ rfl hT aw hv ak
  |some gj=>
   obtain⟨j,a_⟩:=gj;rw[hg]at h2;have aA:=hok.guard i o j a_ Z hg
   have bm:∀W,cX ops (E i) j a_=some W->Region.wanted o (yielded ops a.tmps)=W:=fun W hW=>oE (A:=MA κ.M (F p) L) (L:=L) (w:=w) hg hW fun d aL=>by
    cases ag:ops[j]? with
    |none=>rw[ag]at aL;cases aL
    |some oj=>
     rw[ag]at aL;have ap:oj.dst=some d:=aL;exact⟨aH d (.inr ⟨j,oj,ag,ap,aA⟩),by rw[h.hn];exact ay j oj ag d ap⟩
   rcases h2 with⟨hW,x,aI,ak⟩|⟨hW,bw,ak⟩
   ·rw[bm _ hW,if_pos rfl];exact(iL hS (ao aI) κ L a w h.bF bd).wpIn fun v w' ⟨L',hT,aw,hv⟩=>next v w' L' (.aS x) _ rfl hT aw (.aS _ _ hv) ak
   ·rw[bm _ hW,if_neg (by simp)];refine⟨fun _ _=>trivial,next undef w L .no (F p) ?_ Tr.refl h.bF .no ak⟩;by_cases z:i∈effs
    ·rw[if_pos z,bw,a6 z]
    ·rw[if_neg z]
end
def p8{cs:List SV}{i:Nat}(h:i∈SV.g_ cs):∃(j:Nat) (c:SV),cs[j]?=some c/\i∈c.refs:=by
 induction cs with
 |nil=>rw[SV.g_]at h;cases h
 |cons d ds u=>
  rw[SV.g_,List.mem_append]at h;rcases h with h|h
  ·exact⟨0,d,rfl,h⟩
  ·obtain⟨j,c,h1,h2⟩:=u h;exact⟨j+1,c,by simpa using h1,h2⟩
def SR.reach{A:Nat->Prop}{L:Ls}{w:World}{x:SV}{v:Value}(h:SR A L w x v):∀i∈x.refs,∃u,L i=some u:=by
 induction h with
 |t=>intro i y;rw[SV.refs]at y;cases y
 |nil=>intro i y;rw[SV.refs]at y;cases y
 |tc=>intro i y;rw[SV.refs]at y;cases y
 |nn=>intro i y;rw[SV.refs]at y;cases y
 |lp k j g h=>
   intro i y;rw[SV.refs]at y;obtain rfl:i=k:=by simpa using y
   exact⟨_,h⟩
 |ls k v h V=>
   intro i y;rw[SV.refs]at y;obtain rfl:i=k:=by simpa using y
   exact⟨_,h⟩
 |lv k sz a n b m c h=>
   intro i y;rw[SV.refs]at y;obtain rfl:i=k:=by simpa using y
   exact⟨_,h⟩
 |le k sz e j b m c h=>
   intro i y;rw[SV.refs]at y;obtain rfl:i=k:=by simpa using y
   exact⟨_,h⟩
 |lm k r h=>
   intro i y;rw[SV.refs]at y;obtain rfl:i=k:=by simpa using y
   exact⟨_,h⟩
 |lr k p e b n c t h Z=>
  intro i y;rw[SV.refs]at y;obtain rfl:i=k:=by simpa using y
  exact⟨_,h⟩
 |lo k p t v h Z V=>
  intro i y;rw[SV.refs]at y;obtain rfl:i=k:=by simpa using y
  exact⟨_,h⟩
 |agg G D I J z=>
  intro i y;rw[SV.refs]at y;obtain⟨j,c,h1,h2⟩:=p8 y;exact z j c D[j]! h1 (by rw[Array.getElem!_eq_getD,Array.getD_eq_getD_getElem?];have:=aF h1;rw[Array.getElem?_eq_getElem (by omega)];rfl) i h2
 |aL G D I J z=>
  intro i y;rw[SV.refs]at y;obtain⟨j,c,h1,h2⟩:=p8 y;exact z j c D[j]! h1 (by rw[Array.getElem!_eq_getD,Array.getD_eq_getD_getElem?];have:=aF h1;rw[Array.getElem?_eq_getElem (by omega)];rfl) i h2
 |fn f G U D I J z=>
  intro i y;rw[SV.refs]at y;obtain⟨j,c,h1,h2⟩:=p8 y;exact z j c (U++D)[j]! h1 (by rw[Array.getElem!_eq_getD,Array.getD_eq_getD_getElem?];have:=aF h1;rw[Array.getElem?_eq_getElem (by omega)];rfl) i h2
 |aS x v h z=>intro i y;rw[SV.refs]at y;exact z i y
 |no=>intro i y;rw[SV.refs]at y;cases y
 |dead=>intro i y;rw[SV.refs]at y;cases y
mutual
theorem SV.xO{σ:Nat->Option Nat}:∀x:SV,(∀i∈x.refs,σ i=some i)->x.sub σ=x
 | .t x,_=>by rw[SV.sub]
 | .nil,_=>by rw[SV.sub]
 | .tc es,_=>by rw[SV.sub]
 | .nn es,_=>by rw[SV.sub]
 | .lp i j,h=>by rw[SV.sub,h i (by rw[SV.refs];simp)]
 | .ls i,h=>by rw[SV.sub,h i (by rw[SV.refs];simp)]
 | .lv i sz a n,h=>by rw[SV.sub,h i (by rw[SV.refs];simp)]
 | .le i sz k j,h=>by rw[SV.sub,h i (by rw[SV.refs];simp)]
 | .lm i,h=>by rw[SV.sub,h i (by rw[SV.refs];simp)]
 | .lo i p,h=>by rw[SV.sub,h i (by rw[SV.refs];simp)]
 | .lr i p k,h=>by rw[SV.sub,h i (by rw[SV.refs];simp)]
 | .agg v,h=>by rw[SV.sub,SV.p9 v fun i u=>h i (by rw[SV.refs];exact u)]
 | .aL v,h=>by rw[SV.sub,SV.p9 v fun i u=>h i (by rw[SV.refs];exact u)]
 | .fn f y v,h=>by rw[SV.sub,SV.p9 v fun i u=>h i (by rw[SV.refs];exact u)]
 | .aS s,h=>by rw[SV.sub,SV.xO s fun i u=>h i (by rw[SV.refs];exact u)]
 | .no,_=>by rw[SV.sub]
 | .dead,_=>by rw[SV.sub]
theorem SV.p9{σ:Nat->Option Nat}:∀cs:List SV,(∀i∈SV.g_ cs,σ i=some i)->SV.cN σ cs=cs
 |[],_=>by rw[SV.cN]
 |c::cs,h=>by rw[SV.cN,SV.xO c fun i u=>h i (by rw[SV.g_];simp[u]),SV.p9 cs fun i u=>h i (by rw[SV.g_];simp[u])]
end
def Bv{σ:Nat->Option Nat}(b:Lb)(h:∀i∈b.refs,σ i=some i):iJ σ b b:=by
 cases b with
 |box v T u=>exact⟨id,rfl,(SV.p9 u h).symm⟩
 |row=>exact⟨id,rfl,rfl⟩
 |map v ks y=>exact⟨id,rfl,(SV.p9 y h).symm⟩
 |own=>exact⟨id,rfl⟩
def av.inside{γ:Glob}{κ:Ctx}{fr:Fr}{L:Ls}{w:World}(J:av γ κ fr L w){k:Nat}{D:Lb}(hk:fr[k]?=some D):∀i∈D.refs,i <fr.length:=by
 intro i z;have h:=J.blk k D hk
 cases D with
 |box ro T cs=>
  obtain⟨g,us,_,_,h3,h4⟩:=h;obtain⟨j,c,y,I⟩:=p8 z;have Z:=aF y;obtain⟨u,U⟩:=(h4 j c us[j] y (Array.getElem?_eq_getElem (by omega))).reach i I;exact J.lim _ _ U
 |row=>cases z
 |own=>cases z
 |map ro ks vs=>
  obtain⟨r,v,G,_,_,_,h4,_,I,_⟩:=h;obtain⟨j,c,y,V⟩:=p8 z;have Z:=aF y;obtain⟨u,U⟩:=(I j c v[j] y (Array.getElem?_eq_getElem (by omega))).reach i V;exact J.lim _ _ U
def HI{g:Cfg}{C:CallF}{env:Env}{fr fr':Fr}{T:Nat}{x:SV}{ks:List Nat}(h:cr g C env fr (.alloc T)=some (x,fr',ks)):∃G,x=.lp fr.length 0/\fr'=fr++[G]/\ks=[]/\∀(v:Env) (u:Fr),cr g C v u (.alloc T)=some (.lp u.length 0,u++[G],[]):=by
 have D:∀(env:Env) (fr:Fr),cr g C env fr (.alloc T)=match j9 g.P T with|some z=>some (.lp fr.length 0,fr++[.box false T z],[])|none=>none:=fun env fr=>rfl
 rw[D]at h
 cases y:j9 g.P T with
 |none=>rw[y]at h;cases h
 |some z=>
  rw[y]at h;cases h;exact⟨.box false T z,rfl,rfl,rfl,fun v u=>by rw[D,y]⟩
def HJ{P:Program}{t i j:Nat}{v x:SV}{fr fr':Fr}{ks:List Nat}(h:gH P fr t (.lp i j) v=some (x,fr',ks)):∃G lb',fr[i]?=some G/\fr'=fr.set i lb'/\x=.dead/\ks=[]/\∀(u:Fr) (z:Nat),u[z]?=some G->gH P u t (.lp z j) v=some (.dead,u.set z lb',[]):=by
 unfold gH at h;split at h
 ·cases h
 ·rename_i e n J;split at h
  ·cases h
  ·rename_i y;simp only at h;split at h
   ·rename_i T U I;split at h
    ·rename_i D;cases h;refine⟨_,_,I,rfl,rfl,rfl,fun u z h2=>?_⟩;unfold gH;simp only[J,y,h2,D]
    ·cases h
   ·cases h
def HK{α:Type}{l:List α}{k:Nat}{x:α}(h:l[k]?=some x):l.drop k=x::l.drop (k+1):=by
 obtain⟨u,v⟩:=List.getElem?_eq_some_iff.1 h;rw[List.drop_eq_getElem_cons u,v]
def mH:List Nat->Nat->Nat
 |[],_=>0
 |x::l,k=>if x=k then 0 else mH l k+1
theorem Bw{k:Nat}:∀{l:List Nat},k∈l->l[mH l k]?=some k
 |x::l,h=>by
  unfold mH;split
  ·rename_i e;rw[e];rfl
  ·rename_i e;rw[List.getElem?_cons_succ];exact Bw ((List.mem_cons.1 h).resolve_left (Ne.symm e))
def HL{N n i:Nat}:bT ((List.range n).map (N+·)) i=true↔N<=i/\i <N+n:=by
 rw[pW,List.mem_map];constructor
 ·rintro⟨k,u,rfl⟩;have:=List.mem_range.1 u;omega
 ·rintro⟨h1,h2⟩;exact⟨i - N,List.mem_range.2 (by omega),by omega⟩
def cb(ops:Array Oper)(i:Nat):Nat:=match ops[i]? with
 |some o=>match o.dst with
  |some d=>d
  |none=>0
 |none=>0
structure lQ (ops:Array Oper) (N m:Nat):Prop extends DrawB ops where
 size:ops.size=N+(m+m)
 pr:∀k,k <m->∃(oa os:Oper) (T S:Nat) (x:Operand),ops[N+k]?=some oa/\ops[N+m+k]?=some os/\oa.dst=some (cb ops (N+k))/\oa.op=.alloc T/\oa.guard=none/\os.dst=none/\os.op=.store S (.tmp (cb ops (N+k))) x/\os.guard=none/\ff os (N+k)=true/\x≠.tmp (cb ops (N+k))/\∀(j:Nat) (o:Oper),ops[j]?=some o->j≠N+m+k->.tmp (cb ops (N+k))∉o.op.operands
def HM{ops:Array Oper}{effs:List Nat}(h:ur ops effs=true):∃N m,effs=(List.range (m+m)).map (N+·)/\(∃r,effs=N::r)/\lQ ops N m:=by
 unfold ur at h;split at h
 ·cases h
 ·rename_i N r;simp only[Bool.and_eq_true]at h;obtain⟨⟨⟨⟨h1,h2⟩,h3⟩,h4⟩,h5⟩:=h;generalize hm:(N::r).length/2=m at*
  have h3:(N::r).length=m+m:=by simpa using h3
  refine⟨N,m,by rw[h3]at h4;simpa using h4,⟨r,rfl⟩,{xx h1 with size:=by rw[h3]at h2;simpa using h2,pr:=fun k hk=>?_}⟩;have u:=List.all_eq_true.1 h5 k (List.mem_range.2 hk);unfold Bl at u;split at u
  ·rename_i oa os I hs;split at u
   ·rename_i d T S y x G h8 h9;simp only[Bool.and_eq_true]at u;obtain⟨⟨⟨⟨⟨⟨V,Z⟩,g3⟩,g4⟩,g5⟩,g6⟩,g7⟩:=u;have hd:y=d:=(Nat.eq_of_beq_eq_true V).symm;subst hd;have D:cb ops (N+k)=y:=by unfold cb;rw[I];simp only[G]
    rw[D];refine⟨oa,os,T,S,x,I,hs,G,h8,by simpa using Z,by simpa using g4,h9,by simpa using g3,g5,fun e=>?_,fun j o J hj v=>?_⟩
    ·subst e;simp at g6
    ·have z:=List.all_eq_true.1 g7 j (List.mem_range.2 (Array.getElem?_eq_some_iff.1 J).1);rw[J]at z;have U:Nat.beq j (N+m+k)=false:=by rw[<- Bool.not_eq_true,Nat.beq_eq];exact hj
     simp only[U,Bool.false_or,Bool.not_eq_true']at z
     exact iq.1 z (by
      unfold tmpsOf;rw[List.mem_filterMap];exact⟨.tmp y,Array.mem_toList_iff.2 v,rfl⟩)
   ·cases u
  ·cases u
section
variable {g:Cfg} {γ:Glob} {κ:Ctx} {C:CallF} {ops:Array Oper} {effs:List Nat} {n N m:Nat} {E:Nat->Env} {F:Nat->Fr}
def Al(g:Cfg)(C:CallF)(ops:Array Oper)(i:Nat)(u:Lb):Prop:=∀o,ops[i]?=some o->∀(env:Env) (fr:Fr),cr g C env fr o.op=some (.lp fr.length 0,fr++[u],[])
def St(g:Cfg)(C:CallF)(ops:Array Oper)(E:Nat->Env)(i:Nat)(u v:Lb):Prop:=∀(o:Oper) (S d:Nat) (x:Operand),ops[i]?=some o->o.op=.store S (.tmp d) x->∀(env:Env) (fr:Fr) (j:Nat),rd env (.tmp d)=.lp j 0->rd env x=rd (E i) x->fr[j]?=some u->cr g C env fr o.op=some (.dead,fr.set j v,[])
def Bx{i:Nat}{o:Oper}{e u:Env}{f v:Fr}(h:oG g C effs ops i o e f u v)(hi:bT effs i=true)(hg:o.guard=none):∃x,cr g C e f o.op=some (x,v,[])/\u=aK e o.dst x:=by
 obtain⟨_,h⟩:=h;rw[hg]at h;obtain⟨x,h1,h2⟩:=h;unfold step at h1;simp only[hi]at h1;exact⟨x,h1,h2⟩
def lQ.HN(H:lQ ops N m){j k:Nat}(hj:j <m)(hk:k <m)(h:cb ops (N+j)=cb ops (N+k)):j=k:=by
 obtain⟨z,_,_,_,_,u,_,a2,_⟩:=H.pr j hj;obtain⟨D,_,_,_,_,v,_,y,_⟩:=H.pr k hk;by_cases e:N+k=N+j
 ·omega
 ·exact absurd (h ▸ a2) (H.dst (N+j) z (N+k) D _ u v e y)
theorem Bz(H:lQ ops N m)(z:jg g C ops effs E F)(u:∀i,bT effs i=true↔N<=i/\i <N+(m+m)):∀k,k<=m->∃B:List Lb,B.length=k/\F (N+k)=F 0++B/\∀(q:Nat) (y:Lb),B[q]?=some y->Al g C ops (N+q) y/\E (N+q+1) (cb ops (N+q))=.lp ((F 0).length+q) 0
 |0,_=>⟨[],rfl,by
   have:=ux z 0 (N+0) (Nat.zero_le _) (by rw[H.size];omega) fun i _ hi he=>by
    have:=(u i).1 (pW.2 he);omega
   rw[this];simp,fun q y h=>by simp at h⟩
 |k+1,hk=>by
  obtain⟨B,h1,h2,h3⟩:=Bz H z u k (by omega);obtain⟨oa,_,T,_,_,I,_,a2,a3,a4,_⟩:=H.pr k (by omega);obtain⟨x,J,V⟩:=Bx (z (N+k) oa I) ((u (N+k)).2 ⟨by omega,by omega⟩) a4;rw[a3]at J;obtain⟨y,rfl,Z,_,c4⟩:=HI J;refine⟨B++[y],by simp[h1],by rw[show N+(k+1)=N+k+1 by omega,Z,h2,List.append_assoc],fun q G v=>?_⟩;rcases Nat.lt_or_ge q k with ad|ab
  ·rw[List.getElem?_append_left (by omega)]at v;exact h3 q G v
  ·have D:=aF v;obtain rfl:q=k:=by simp at D;omega
   rw[List.getElem?_append_right (by omega),h1,Nat.sub_self]at v;cases v;refine⟨fun o U env fr=>?_,?_⟩
   ·rw[I]at U;cases U;rw[a3];exact c4 env fr
   ·rw[V,a2,h2];show dw _ _ _ _=_
    rw[kF];simp[h1]
theorem BA(H:lQ ops N m)(Z:jg g C ops effs E F)(J:∀i,bT effs i=true↔N<=i/\i <N+(m+m)){B0:List Lb}(hB:B0.length=m)(hF:F (N+m)=F 0++B0)(hD:∀(q:Nat) (lb:Lb),B0[q]?=some lb->E (N+q+1) (cb ops (N+q))=.lp ((F 0).length+q) 0):
  ∀k,k<=m->∃B1:List Lb,B1.length=k/\F (N+m+k)=F 0++(B1++B0.drop k)/\∀(q:Nat) (v D:Lb),B0[q]?=some v->B1[q]?=some D->St g C ops E (N+m+q) v D
 |0,_=>⟨[],rfl,by rw[Nat.add_zero,hF];simp,fun q v D _ h=>by simp at h⟩
 |k+1,hk=>by
  obtain⟨B1,h1,h2,h3⟩:=BA H Z J hB hF hD k (by omega);obtain⟨oa,os,T,S,x,a1,s1,a2,a3,a4,s2,s3,s4,s5,s6,s7⟩:=H.pr k (by omega);obtain⟨y,I,b2⟩:=Bx (Z (N+m+k) os s1) ((J (N+m+k)).2 ⟨by omega,by omega⟩) s4;obtain⟨v,u⟩:=am (xs:=B0) (k:=k) (by omega)
  have ag:rd (E (N+m+k)) (.tmp (cb ops (N+k)))=.lp ((F 0).length+k) 0:=by
   have e1:E (N+m+k) (cb ops (N+k))=.lp ((F 0).length+k) 0:=by
    rw[oH Z (cb ops (N+k)) (N+k+1) (N+m+k) (by omega) (by rw[H.size];omega) fun j o hj _ V hd=>H.dst j o (N+k) oa _ V a1 (by omega) a2 hd];exact hD k v u
   show un (E (N+m+k) (cb ops (N+k)))=_
   rw[e1];rfl
  rw[s3]at I;have I:gH g.P (F (N+m+k)) S (rd (E (N+m+k)) (.tmp (cb ops (N+k)))) (rd (E (N+m+k)) x)=some (y,F (N+m+k+1),[]):=I;rw[ag]at I;obtain⟨lb,D,c1,c2,rfl,_,c3⟩:=HJ I
  have ab:(F (N+m+k))[(F 0).length+k]?=B0[k]?:=by
   rw[h2,List.getElem?_append_right (by omega),List.getElem?_append_right (by omega),List.getElem?_drop];congr 1;omega
  rw[ab,u]at c1;cases c1;refine⟨B1++[D],by simp[h1],?_,fun q l0 l1 G z=>?_⟩
  ·rw[show N+m+(k+1)=N+m+k+1 by omega,c2,h2];have hd:B0.drop k=v::B0.drop (k+1):=HK u;rw[hd,List.set_append_right _ _ (by omega),List.set_append_right _ _ (by omega),List.append_assoc];congr 2;rw[show(F 0).length+k - (F 0).length - B1.length=0 by omega];rfl
  ·rcases Nat.lt_or_ge q k with al|ak
   ·rw[List.getElem?_append_left (by omega)]at z;exact h3 q l0 l1 G z
   ·have ad:=aF z;obtain rfl:q=k:=by simp at ad;omega
    rw[List.getElem?_append_right (by omega),h1,Nat.sub_self]at z;cases z;rw[u]at G;cases G;intro o S' d' x' V U env fr j r1 r2 r3;rw[s1]at V;cases V;rw[s3]at U;cases U;rw[s3];show gH g.P fr S (rd env (.tmp (cb ops (N+q)))) (rd env x)=_
    rw[r1,r2];exact c3 fr j r3
def gB(B:List Lb)(k:Nat):Lb:=(B[k]?).getD (.box true 0 [])
def jP(N m:Nat)(B0 B1:List Lb)(listed:Array Bool)(k:Nat):Lb:=match listed.getD (N+m+k) true with
 |true=>gB B1 k
 |false=>gB B0 k
def Gf(fr0:Fr)(N m:Nat)(B0 B1:List Lb)(listed:Array Bool)(pend:List Nat):Fr:=fr0++pend.map (jP N m B0 B1 listed)
structure kI (γ:Glob) (κ:Ctx) (ops:Array Oper) (N m n:Nat) (E:Nat->Env) (fr0:Fr) (B0 B1:List Lb) (pend:List Nat) (L:Ls) (listed:Array Bool) (a:Act) (w:World):Prop where
 hd:Marks κ w a.defers
 hn:a.tmps.size=n
 hs:listed.size=ops.size
 nd:pend.Nodup
 mem:∀k,k∈pend↔k <m/\listed.getD (N+k) true=true
 bF:av γ κ (Gf fr0 N m B0 B1 listed pend) L w
 ptr:∀p k,pend[p]?=some k->SR (MA κ.M (Gf fr0 N m B0 B1 listed pend) L) L w (.lp (fr0.length+p) 0) (a.tmps.getD (cb ops (N+k)) undef)
 done:∀(i:Nat) (o:Oper) (t:Nat),i <N->ops[i]?=some o->o.dst=some t->listed.getD i true=true->SR (MA κ.M (Gf fr0 N m B0 B1 listed pend) L) L w (E (i+1) t) (a.tmps.getD t undef)
 rest:∀(t:Nat),(∀k,k <m->t≠cb ops (N+k))->(∀(i:Nat) (o:Oper),i <N->ops[i]?=some o->o.dst=some t->listed.getD i true=false)->SR (MA κ.M (Gf fr0 N m B0 B1 listed pend) L) L w (E 0 t) (a.tmps.getD t undef)
 eB:∀(k:Nat) (o:Oper),ops[k]?=some o->listed.getD k true=true->∀e∈o.after,Region.binds .any e=true->listed.getD e.on false=true
variable {fr0:Fr} {B0 B1:List Lb} {pend:List Nat} {L:Ls} {listed:Array Bool} {a:Act} {w:World}
def kI.start(H:lQ ops N m)(hd:Marks κ w a.defers)(hn:a.tmps.size=n)(z:av γ κ fr0 L w)(D:∀t,SR (MA κ.M fr0 L) L w (E 0 t) (a.tmps.getD t undef)):kI γ κ ops N m n E fr0 B0 B1 [] L (Array.replicate ops.size false) a w where
 hd:=hd
 hn:=hn
 hs:=by simp
 nd:=List.nodup_nil
 mem:=fun k=>by
  constructor
  ·intro h;cases h
  ·rintro⟨v,h⟩;rw[Array.getD_eq_getD_getElem?,Array.getElem?_replicate,if_pos (by rw[H.size];omega)]at h;cases h
 bF:=by unfold Gf;simpa using z
 ptr:=fun p k h=>by simp at h
 done:=fun k o t _ y _ u=>by
  have v:=(Array.getElem?_eq_some_iff.1 y).1;rw[Array.getD_eq_getD_getElem?,Array.getElem?_replicate,if_pos v]at u;cases u
 rest:=fun t _ _=>by unfold Gf;simpa using D t
 eB:=fun k o y u=>by
  have v:=(Array.getElem?_eq_some_iff.1 y).1;rw[Array.getD_eq_getD_getElem?,Array.getElem?_replicate,if_pos v]at u;cases u
def kI.mG(h:kI γ κ ops N m n E fr0 B0 B1 pend L listed a w){i k:Nat}(ha:gK ops i k):(∀(o:Oper),ops[i]?=some o->∀e∈o.after,Region.binds .any e=true->listed.getD e.on false=true)->listed.getD k true=true:=by
 induction ha with
 |one i o e z v u=>intro y;exact gL (y o z e v u)
 |more i k o e z v u ha G=>
  intro y;have h1:=gL (y o z e v u);exact G fun I D=>h.eB e.on I D h1
def BB(H:lQ ops N m){t:Nat}(ht:∀k,k <m->t≠cb ops (N+k)){i:Nat}{o:Oper}(ho:ops[i]?=some o)(hd:o.dst=some t):i <N:=by
 rcases Nat.lt_or_ge i N with h|h
 ·exact h
 ·have z:=(Array.getElem?_eq_some_iff.1 ho).1;rw[H.size]at z;rcases Nat.lt_or_ge i (N+m)with h1|h1
  ·obtain⟨D,_,_,_,_,u,_,a2,_⟩:=H.pr (i - N) (by omega);rw[show N+(i - N)=i by omega,ho]at u;cases u;rw[show N+(i - N)=i by omega]at a2;rw[hd]at a2;cases a2;exact absurd (show cb ops i=cb ops (N+(i - N)) by rw[show N+(i - N)=i by omega]) (ht (i - N) (by omega))
  ·obtain⟨_,G,_,_,_,_,v,_,_,_,y,_⟩:=H.pr (i - N - m) (by omega);rw[show N+m+(i - N - m)=i by omega,ho]at v;cases v;rw[hd]at y;cases y
def kI.slot(H:lQ ops N m)(I:jg g C ops effs E F)(h:kI γ κ ops N m n E fr0 B0 B1 pend L listed a w){i t:Nat}(ht:∀k,k <m->t≠cb ops (N+k))(hi:i<=ops.size)
  (h1:∀(k:Nat) (ok:Oper),ops[k]?=some ok->ok.dst=some t->listed.getD k true=true->k <i)(h2:∀(k:Nat) (ok:Oper),ops[k]?=some ok->ok.dst=some t->listed.getD k true=false->i<=k):SR (MA κ.M (Gf fr0 N m B0 B1 listed pend) L) L w (E i t) (a.tmps.getD t undef):=by
 by_cases v:∃(k:Nat) (ok:Oper),ops[k]?=some ok/\ok.dst=some t/\listed.getD k true=true
 ·obtain⟨k,ok,u,hd,z⟩:=v;have D:=h1 k ok u hd z;rw[oH I t (k+1) i (by omega) hi fun q V J U G=>H.dst q V k ok t G u (by omega) hd];exact h.done k ok t (BB H ht u hd) u hd z
 ·have y:∀(k:Nat) (o:Oper),ops[k]?=some o->o.dst=some t->listed.getD k true=false:=fun k o u hd=>by
   rw[<- Bool.not_eq_true];exact fun z=>v ⟨k,o,u,hd,z⟩
  rw[oH I t 0 i (Nat.zero_le _) hi fun k o _ D u hd=>by have:=h2 k o u hd (y k o u hd);omega];exact h.rest t ht fun i o _ u hd=>y i o u hd
def xP:(Gf fr0 N m B0 B1 listed pend).length=fr0.length+pend.length:=by unfold Gf;simp
def p_{i:Nat}(hi:i <fr0.length):(Gf fr0 N m B0 B1 listed pend)[i]?=fr0[i]?:=by unfold Gf;rw[List.getElem?_append_left hi]
def rX{p:Nat}:(Gf fr0 N m B0 B1 listed pend)[fr0.length+p]?=(pend[p]?).map (jP N m B0 B1 listed):=by
 unfold Gf;rw[List.getElem?_append_right (by omega),show fr0.length+p - fr0.length=p by omega,List.getElem?_map]
def kI.fin(H:lQ ops N m)(hE:jg g C ops effs E F)(h:kI γ κ ops N m n E fr0 B0 B1 pend L listed a w)(V:∀k,k <ops.size->listed.getD k true=true)(au:B1.length=m)(hF:F ops.size=fr0++B1)(hD:∀q,q <m->E ops.size (cb ops (N+q))=.lp (fr0.length+q) 0)
  (ay:∀b∈B1,wU b=true)(aD:∀(i:Nat) (o:Oper) (t:Nat),i <N->ops[i]?=some o->o.dst=some t->∀r∈(E ops.size t).refs,r <fr0.length)(h0:∀t,∀r∈(E 0 t).refs,r <fr0.length)(hfr:∀b∈fr0,∀r∈b.refs,r <fr0.length)(hκ:∀j v,κ.L j=some v->j <fr0.length):
  ∃L',av γ κ (F ops.size) L' w/\∀t,SR (MA κ.M (F ops.size) L') L' w (E ops.size t) (a.tmps.getD t undef):=by
 have ag:∀k,k∈pend↔k <m:=fun k=>by
  rw[h.mem k];exact⟨fun q=>q.1,fun q=>⟨q,V _ (by rw[H.size];omega)⟩⟩
 have aA:∀k,k <m->∃b,B1[k]?=some b/\jP N m B0 B1 listed k=b:=fun k u=>by
  obtain⟨b,hb⟩:=am (xs:=B1) (k:=k) (by omega);refine⟨b,hb,?_⟩;unfold jP;rw[V _ (by rw[H.size];omega)];show gB B1 k=b
  unfold gB;rw[hb];rfl
 have I:∀k,k <m->pend[mH pend k]?=some k:=fun k u=>Bw ((ag k).2 u);have ao:∀p k,pend[p]?=some k->mH pend k=p:=fun p k hp=>uk h.nd (I k ((ag k).1 (List.mem_of_getElem? hp))) hp;have Z:(fr0++B1).length=fr0.length+m:=by simp[au]
 let σ:Nat->Option Nat:=fun i=>if i <fr0.length then some i else(pend[i - fr0.length]?).map (fr0.length+·)
 let π:Nat->Nat:=fun j=>if j <fr0.length then j else fr0.length+mH pend (j - fr0.length)
 have ak:∀i,i <fr0.length->σ i=some i:=fun i y=>if_pos y
 have ap:∀p k,pend[p]?=some k->σ (fr0.length+p)=some (fr0.length+k):=fun p k hp=>by
  show(if _ then _ else _)=_
  rw[if_neg (by omega),show fr0.length+p - fr0.length=p by omega,hp];rfl
 have D:∀i,i <fr0.length->π i=i:=fun i y=>if_pos y
 have J:∀k,π (fr0.length+k)=fr0.length+mH pend k:=fun k=>by
  show(if _ then _ else _)=_
  rw[if_neg (by omega),show fr0.length+k - fr0.length=k by omega]
 have split:∀j,j <(fr0++B1).length->j <fr0.length\/∃k,k <m/\j=fr0.length+k:=fun j G=>by
  rw[Z]at G;rcases Nat.lt_or_ge j fr0.length with h1|h1
  ·exact .inl h1
  ·exact .inr ⟨j - fr0.length,by omega,by omega⟩
 obtain⟨r1,r2,r3⟩:=h.bF.rI (fr0++B1) π σ (fun j k G u e=>by
   rcases split j G with h1|⟨p,hp,rfl⟩<;>rcases split k u with h2|⟨q,hq,rfl⟩
   ·rw[D j h1,D k h2]at e;exact e
   ·rw[D j h1,J q]at e;omega
   ·rw[D k h2,J p]at e;omega
   ·rw[J p,J q]at e;have U:=I p hp;have e2:=I q hq;rw[show mH pend p=mH pend q by omega,e2]at U;cases U;rfl) (fun i j v y hv=>by
   have aE:=h.bF.lim i v hv;rw[xP]at aE;rcases Nat.lt_or_ge i fr0.length with h1|h1
   ·rw[ak i h1]at y;cases y;exact⟨by rw[Z];omega,D i h1⟩
   ·obtain⟨p,rfl⟩:∃p,i=fr0.length+p:=⟨i - fr0.length,by omega⟩;obtain⟨k,u⟩:=am (xs:=pend) (k:=p) (by omega);rw[ap p k u]at y;cases y;have aH:=(ag k).1 (List.mem_of_getElem? u);exact⟨by rw[Z];omega,by rw[J,ao p k u]⟩) (fun j z G=>by
   rcases split j (aF G)with h1|⟨k,u,rfl⟩
   ·rw[List.getElem?_append_left h1]at G;rw[D j h1];exact⟨z,by rw[p_ h1];exact G,Bv z fun i y=>ak i (hfr z (List.mem_of_getElem? G) i y)⟩
   ·rw[List.getElem?_append_right (by omega),show fr0.length+k - fr0.length=k by omega]at G;obtain⟨b,al,aw⟩:=aA k u;rw[al]at G;cases G;rw[J];refine⟨z,by rw[rX,I k u,Option.map_some,aw],Bv z fun i y=>?_⟩;have ad:=ay z (List.mem_of_getElem? al)
    cases z with
    |box ro T cs=>
     have y:i∈SV.g_ cs:=y;obtain⟨q,c,hq,hc⟩:=p8 y;have h5:=List.all_eq_true.1 ad c (List.mem_of_getElem? hq);cases c <;>first|(cases h5;done)|(rw[SV.refs]at hc;cases hc)
    |row=>cases y
    |own=>cases y
    |map=>cases ad) (fun j v G=>by
   have ab:=hκ j v G;obtain⟨lb,U,_⟩:=h.bF.hand j v G;rw[p_ ab]at U;exact⟨lb,lb,by rw[p_ ab];exact U,by rw[List.getElem?_append_left ab];exact U,D j ab,id⟩)
 rw[hF];refine⟨_,r1,fun t=>?_⟩;have conv:∀{x:SV} {v:Value},SR (MA κ.M (Gf fr0 N m B0 B1 listed pend) L) L w x v->SR (MA κ.M (fr0++B1) (iK (fr0++B1).length L π)) (iK (fr0++B1).length L π) w (x.sub σ) v:=fun hx=>SR.sub σ (Nat.le_refl _) (fun b _ hb=>⟨r2 b hb,rfl⟩) r3 hx
 by_cases an:∃k,k <m/\t=cb ops (N+k)
 ·obtain⟨k,u,rfl⟩:=an;have U:=conv (h.ptr _ k (I k u))
  rw[hD k u];rw[SV.sub,ap _ k (I k u)]at U;exact U
 ·have ht:∀k,k <m->t≠cb ops (N+k):=fun k u e=>an ⟨k,u,e⟩
  have U:=h.slot H hE (i:=ops.size) ht (Nat.le_refl _) (fun k ok u _ _=>(Array.getElem?_eq_some_iff.1 u).1) (fun k ok u _ hl=>by
   have:=V k (Array.getElem?_eq_some_iff.1 u).1;rw[hl]at this;cases this)
  have e2:=conv U
  rw[SV.xO _ fun i y=>ak i ?_]at e2
  ·exact e2
  ·by_cases hw:∃(i:Nat) (o:Oper),i <N/\ops[i]?=some o/\o.dst=some t
   ·obtain⟨q,o,h1,h2,h3⟩:=hw;exact aD q o t h1 h2 h3 i y
   ·rw[oH hE t 0 ops.size (Nat.zero_le _) (Nat.le_refl _) fun k o _ _ u hd=>hw ⟨k,o,BB H ht u hd,u,hd⟩]at y;exact h0 t i y
def HO{u:Array Bool}(h:∀k∈pend,u.getD (N+m+k) true=listed.getD (N+m+k) true):Gf fr0 N m B0 B1 u pend=Gf fr0 N m B0 B1 listed pend:=by
 unfold Gf;congr 1;refine List.map_congr_left fun k v=>?_;unfold jP;rw[h k v]
def HP{u:Array Bool}{p k:Nat}{b:Lb}(hn:pend.Nodup)(hp:pend[p]?=some k)(hb:jP N m B0 B1 u k=b)(h:∀q∈pend,q≠k->u.getD (N+m+q) true=listed.getD (N+m+q) true):Gf fr0 N m B0 B1 u pend=(Gf fr0 N m B0 B1 listed pend).set (fr0.length+p) b:=by
 have G:=aF hp;refine List.ext_getElem? fun j=>?_;rcases Nat.lt_or_ge j fr0.length with h1|h1
 ·rw[List.getElem?_set_ne (by omega),p_ h1,p_ h1]
 ·obtain⟨q,rfl⟩:∃q,j=fr0.length+q:=⟨j - fr0.length,by omega⟩;by_cases e:q=p
  ·subst e;rw[List.getElem?_set_self (by rw[xP];omega),rX,hp,Option.map_some,hb]
  ·rw[List.getElem?_set_ne (by omega),rX,rX]
   cases y:pend[q]? with
   |none=>rfl
   |some z=>
    have v:z≠k:=fun D=>by subst D;exact e (uk hn y hp)
    simp only[Option.map_some];unfold jP;rw[h z (List.mem_of_getElem? y) v]
def HQ{dd:Option Nat}{dn:Nat}(hS:fy g.P γ C)(H:lQ ops N m)(be:∀i,bT effs i=true↔N<=i/\i <N+(m+m))(b4:lN n ops.toList=true)(hE:jg g C ops effs E F)(b1:∀i,i<=N->F i=fr0)
  (fi:B0.length=m)(dj:∀(q:Nat) (lb:Lb),B0[q]?=some lb->Al g C ops (N+q) lb)(fl:B1.length=m)(d_:∀(q:Nat) (Z aL:Lb),B0[q]?=some Z->B1[q]?=some aL->St g C ops E (N+m+q) Z aL){Q:Exit->Act->World->Prop}
  (hK:∀pend L listed a w,(∀k,k <ops.size->listed.getD k true=true)->kI γ κ ops N m n E fr0 B0 B1 pend L listed a w->Q .normal a w):
  ∀(J:Nat) (pend:List Nat) (L:Ls) (listed:Array Bool) (a:Act) (w:World),fL listed ops.size<=J->kI γ κ ops N m n E fr0 B0 B1 pend L listed a w->wpAnyIn (Fw dd) dn g.P .any ops Q J listed a w:=by
 have ap:∀(i:Nat) (o:Oper),ops[i]?=some o->∀d,o.dst=some d->d <n:=fun i o G d hd=>lO b4 (Array.mem_toList_iff.2 (Array.mem_of_getElem? G)) hd;intro J
 induction J with
 |zero=>
  intro pend L listed a w hu h;have bl:=uu (listed:=listed) ops.size (by omega);refine⟨?_,hK pend L listed a w bl h⟩
  cases hr:Region.ready .any ops listed with
  |nil=>rfl
  |cons i l=>
   have hm:i∈Region.ready .any ops listed:=by rw[hr];simp
   obtain⟨hl,o,G,_⟩:=mem_ready.1 hm;have:=bl i (Array.getElem?_eq_some_iff.1 G).1;rw[hl]at this;cases this
 |succ J ih=>
  intro pend L listed a w hu h;refine⟨fun hr=>hK pend L listed a w (Bu H.toDrawB h.hs hr) h,fun i hi=>?_⟩;obtain⟨hl,o,G,au⟩:=mem_ready.1 hi;have bm:=(Array.getElem?_eq_some_iff.1 G).1;have e5:=hE i o G
  have bZ:fL (listed.setIfInBounds i true) ops.size<=J:=by
   have:=rU hl ops.size;rw[if_pos bm]at this;omega
  have df:∀k,gK ops i k->listed.getD k true=true:=fun k ha=>h.mG ha fun o' bg=>by rw[G]at bg;cases bg;exact au
  have ab:∀k,ff o k=true->listed.getD k true=true/\k <i:=fun k D=>by
   obtain⟨e,he,hb,rfl⟩:=lP D;exact⟨gL (au e he hb),H.back i o G e he hb⟩
  have aA:∀t,(∀k,k <m->t≠cb ops (N+k))->(.tmp t∈o.op.operands\/∃j oj,ops[j]?=some oj/\oj.dst=some t/\ff o j=true)->SR (MA κ.M (Gf fr0 N m B0 B1 listed pend) L) L w (E i t) (a.tmps.getD t undef):=fun t al ht=>by
   refine h.slot H hE al (by omega) (fun k ok D hd I=>?_) (fun k ok D hd I=>?_)
   ·have V:k≠i:=fun e=>by subst e;rw[hl]at I;cases I
    rcases ht with hy|⟨j,oj,ad,ag,aI⟩
    ·rcases H.use i o k ok t G D V hd hy with h1|h1
     ·exact(ab k h1).2
     ·obtain⟨e,he,hb,rfl⟩:=lP h1;have:=gL (h.eB k ok D I e he hb);rw[hl]at this;cases this
    ·by_cases aR:k=j
     ·subst aR;exact(ab k aI).2
     ·exact absurd ag (H.dst k ok j oj t D ad (Ne.symm aR) ag |>fun q=>absurd hd q)
   ·rcases Nat.lt_or_ge k i with cp|ej
    ·rcases ht with hy|⟨j,oj,ad,ag,aI⟩
     ·rcases H.use i o k ok t G D (by omega) hd hy with h1|h1
      ·have:=(ab k h1).1;rw[I]at this;cases this
      ·obtain⟨e,he,hb,rfl⟩:=lP h1;have:=H.back k ok D e he hb;omega
     ·by_cases aR:k=j
      ·subst aR;have:=(ab k aI).1;rw[I]at this;cases this
      ·exact absurd hd (H.dst k ok j oj t D ad (Ne.symm aR) ag)
    ·exact ej
  have z:∀j,j≠i->(listed.setIfInBounds i true).getD j true=listed.getD j true:=fun j hj=>getD_set_ne true (Ne.symm hj);have aH:(listed.setIfInBounds i true).getD i true=true:=by rw[Array.getD_eq_getD_getElem?,Array.getElem?_setIfInBounds_self_of_lt (by rw[h.hs];exact bm)];rfl
  have an:∀(k:Nat) (o:Oper),ops[k]?=some o->(listed.setIfInBounds i true).getD k true=true->∀e∈o.after,Region.binds .any e=true->(listed.setIfInBounds i true).getD e.on false=true:=fun k ok D I e he b3=>by
   by_cases V:k=i
   ·subst V;rw[G]at D;cases D;exact getD_set_true (au e he b3)
   ·rw[z k V]at I;exact getD_set_true (h.eB k ok D I e he b3)
  rcases Nat.lt_or_ge i N with cd|cd
  ·-- an operation ahead of the new variables
   have cf:bT effs i=false:=by rw[<- Bool.not_eq_true,be];omega
   have eE:∀t,.tmp t∈o.op.operands->∀k,k <m->t≠cb ops (N+k):=fun t ht k D e=>by
    obtain⟨_,_,_,_,_,_,_,_,_,_,_,_,_,_,_,hx⟩:=H.pr k D;exact hx i o G (by omega) (e ▸ ht)
   have cA:∀y∈o.op.operands,SR (MA κ.M (Gf fr0 N m B0 B1 listed pend) L) L w (du (E i) y) (a.eval y):=fun y hy=>by
    cases y with
    |const v=>exact jJ v
    |global g=>exact .dead _
    |func f=>exact .t _ _ (.fn _ [] #[] #[] rfl (fun j x u hx _=>by simp at hx))
    |tmp t=>exact aA t (eE t hy) (.inl hy)
   have dr:F i=fr0:=b1 i (by omega);have b2:F (i+1)=fr0:=b1 (i+1) (by omega)
   have aE:∀{x},step g C (some effs) i (E i) (F i) o.op=some (x,F (i+1),[])->step g C (some effs) i (E i) (Gf fr0 N m B0 B1 listed pend) o.op=some (x,Gf fr0 N m B0 B1 listed pend,[]):=fun{x} hx=>by
    rw[dr,b2]at hx
    cases cB:pend with
    |nil=>unfold Gf;simpa using hx
    |cons k0 pr=>
     rw[<- cB];have ev:k0∈pend:=by rw[cB];simp
     obtain⟨cl,ch⟩:=(h.mem k0).1 ev;obtain⟨oa,_,_,_,_,a1,_⟩:=H.pr k0 cl
     have hb:((Region.before ops).getD (N+k0) 0).testBit i=false:=by
      rw[<- Bool.not_eq_true];intro hb;have:=h.mG (p6 hb) fun o' bg=>h.eB (N+k0) o' bg ch;rw[hl]at this;cases this
     have hf:=List.all_eq_true.1 (hE (N+k0) oa a1).1 i (List.mem_range.2 (by omega));unfold tW at hf;simp only[a1,G,cf,(be (N+k0)).2 ⟨by omega,by omega⟩,hb,Bool.false_or,Bool.and_eq_true]at hf;obtain⟨wl,rl,e1,e2,e3⟩:=xJ hf.2;rw[Bs (HD hE (by omega) (by rw[H.size];omega) hf.1)]at e2;have bO:=e2;unfold step at hx⊢;simp only[cf]at hx⊢
     cases ct:mz o.op with
     |true=>exact Bp ct bO hx
     |false=>
      unfold io at hx⊢;simp only[ct]at hx⊢;obtain⟨bc,_,_⟩:=uq hx;have cp:=Br bO bc;rw[<- Bq (fr:=fr0) bO fun b hb=>(p_ (cp b hb)).symm,bc];rfl
   have next:∀(v:Value) (w':World) (L':Ls) (x:SV),Tr κ.M (Gf fr0 N m B0 B1 listed pend) L w (Gf fr0 N m B0 B1 listed pend) L' w' []->av γ κ (Gf fr0 N m B0 B1 listed pend) L' w'->SR (MA κ.M (Gf fr0 N m B0 B1 listed pend) L') L' w' x v->E (i+1)=aK (E i) o.dst x->wpAnyIn (Fw dd) dn g.P .any ops Q J (listed.setIfInBounds i true) (a.put o.dst v) w':=fun v w' L' x hT U hv ao=>by
    have hG:Gf fr0 N m B0 B1 (listed.setIfInBounds i true) pend=Gf fr0 N m B0 B1 listed pend:=HO fun k _=>z _ (by omega)
    have eP:∀k,k <m->o.dst≠some (cb ops (N+k)):=fun k D e=>by
     obtain⟨oa,_,_,_,_,a1,_,a2,_⟩:=H.pr k D;exact H.dst i o (N+k) oa _ G a1 (by omega) a2 e
    refine ih pend L' _ _ _ bZ ⟨?_,?_,?_,h.nd,fun k=>?_,by rw[hG];exact U,fun p k hp=>?_,fun k ok t bI D hd I=>?_,fun t al ht=>?_,an⟩
    ·rw[put_defers];exact h.hd.tr h.bF hT
    ·rw[bQ,h.hn]
    ·rw[Array.size_setIfInBounds];exact h.hs
    ·rw[h.mem k];constructor
     ·rintro⟨q1,q2⟩;exact⟨q1,by rw[z _ (by omega)];exact q2⟩
     ·rintro⟨q1,q2⟩;exact⟨q1,by rw[z _ (by omega)]at q2;exact q2⟩
    ·rw[hG,ck (eP k ((h.mem k).1 (List.mem_of_getElem? hp)).1)];exact hT.sr (h.ptr p k hp)
    ·rw[hG];by_cases V:k=i
     ·subst V;rw[G]at D;cases D;rw[ao,hd,fz (by rw[h.hn];exact ap k o G t hd)];show SR _ _ _ (dw _ t x t) v
      rw[kF];exact hv
     ·rw[ck (H.dst i o k ok t G D V hd)];rw[z k V]at I;exact hT.sr (h.done k ok t bI D hd I)
    ·rw[hG]
     have cc:o.dst≠some t:=fun hd=>by
      have:=ht i o cd G hd;rw[aH]at this;cases this
     rw[ck cc];refine hT.sr (h.rest t al fun k ok bI D hd=>?_);have V:k≠i:=fun e=>by subst e;rw[G]at D;cases D;exact cc hd
     have:=ht k ok bI D hd;rw[z k V]at this;exact this
   have h2:=e5.2;unfold wpOpIn;simp only[G]
   cases hg:o.guard with
   |none=>
    rw[hg]at h2;obtain⟨x,bb,ao⟩:=h2;rw[if_pos (by simp[Region.wanted,hg])];exact(iL hS (aE bb) κ L a w h.bF cA).wpIn fun v w' ⟨L',hT,U,hv⟩=>next v w' L' x hT U hv ao
   |some gj=>
    obtain⟨j,bC⟩:=gj;rw[hg]at h2;have aI:=H.guard i o j bC G hg;have fm:=(ab j aI).2
    have c4:∀W,cX ops (E i) j bC=some W->Region.wanted o (yielded ops a.tmps)=W:=fun W hW=>oE (A:=MA κ.M (Gf fr0 N m B0 B1 listed pend) L) (L:=L) (w:=w) hg hW fun d bd=>by
     cases ad:ops[j]? with
     |none=>rw[ad]at bd;cases bd
     |some oj=>
      rw[ad]at bd;have ag:oj.dst=some d:=bd;refine⟨aA d (fun k D e=>?_) (.inr ⟨j,oj,ad,ag,aI⟩),by rw[h.hn];exact ap j oj ad d ag⟩;obtain⟨oa,_,_,_,_,a1,_,a2,_⟩:=H.pr k D;exact H.dst (N+k) oa j oj d a1 ad (by omega) ag (e ▸ a2)
    rcases h2 with⟨hW,x,bb,ao⟩|⟨hW,fg,ao⟩
    ·rw[c4 _ hW,if_pos rfl];exact(iL hS (aE bb) κ L a w h.bF cA).wpIn fun v w' ⟨L',hT,U,hv⟩=>next v w' L' (.aS x) hT U (.aS _ _ hv) ao
    ·rw[c4 _ hW,if_neg (by simp)];exact⟨fun _ _=>trivial,next undef w L .no Tr.refl h.bF .no ao⟩
  ·have fo:=H.size;rcases Nat.lt_or_ge i (N+m)with ek|ek
   ·-- a new variable
    obtain⟨k,rfl⟩:∃k,i=N+k:=⟨i - N,by omega⟩;have ay:k <m:=by omega
    obtain⟨oa,os,T,S,x,a1,s1,a2,a3,a4,s2,s3,s4,s5,s6,s7⟩:=H.pr k ay;rw[G]at a1;cases a1;obtain⟨Z,ak⟩:=am (xs:=B0) (k:=k) (by omega);have eb:=dj k Z ak o G (E (N+k)) (Gf fr0 N m B0 B1 listed pend)
    have aD:step g C (some effs) (N+k) (E (N+k)) (Gf fr0 N m B0 B1 listed pend) o.op=some (.lp (Gf fr0 N m B0 B1 listed pend).length 0,Gf fr0 N m B0 B1 listed pend++[Z],[]):=by
     unfold step;simp only[(be (N+k)).2 ⟨by omega,by omega⟩];exact eb
    have e6:listed.getD (N+m+k) true=false:=by
     rw[<- Bool.not_eq_true];intro ey;obtain⟨e,he,hb,ef⟩:=lP s5;have:=gL (h.eB (N+m+k) os s1 ey e he hb);rw[ef,hl]at this;cases this
    have bf:k∉pend:=fun D=>by
     have:=((h.mem k).1 D).2;rw[hl]at this;cases this
    have hG:Gf fr0 N m B0 B1 (listed.setIfInBounds (N+k) true) (pend++[k])=Gf fr0 N m B0 B1 listed pend++[Z]:=by
     unfold Gf;rw[List.map_append,<- List.append_assoc];congr 1
     ·congr 1;refine List.map_congr_left fun q _=>?_;unfold jP;rw[z _ (by omega)]
     ·show[jP N m B0 B1 _ k]=[Z]
      unfold jP;rw[z _ (by omega),e6];show[gB B0 k]=_
      unfold gB;rw[ak];rfl
    unfold wpOpIn;simp only[G];rw[if_pos (by simp[Region.wanted,a4])];refine(iL hS aD κ L a w h.bF (fun y hy=>by rw[a3]at hy;simp[Op.operands]at hy)).wpIn fun v w' ⟨L',hT,U,hv⟩=>?_;rw[<- hG]at U hv hT;refine ih (pend++[k]) L' _ _ _ bZ ⟨?_,?_,?_,?_,fun q=>?_,U,fun p q hp=>?_,fun j oj t aw hj hd a6=>?_,fun t al ht=>?_,an⟩
    ·rw[put_defers];exact h.hd.tr h.bF hT
    ·rw[bQ,h.hn]
    ·rw[Array.size_setIfInBounds];exact h.hs
    ·rw[List.nodup_append];refine⟨h.nd,by simp,fun q hq r hr e=>?_⟩;obtain rfl:r=k:=by simpa using hr
     exact bf (e ▸ hq)
    ·rw[List.mem_append,h.mem q];constructor
     ·rintro(⟨q1,q2⟩|q1)
      ·refine⟨q1,?_⟩;by_cases e:q=k
       ·subst e;exact aH
       ·rw[z _ (by omega)];exact q2
      ·obtain rfl:q=k:=by simpa using q1
       exact⟨ay,aH⟩
     ·rintro⟨q1,q2⟩;by_cases e:q=k
      ·exact .inr (by simp[e])
      ·rw[z _ (by omega)]at q2;exact .inl ⟨q1,q2⟩
    ·rcases Nat.lt_or_ge p pend.length with bN|bN
     ·rw[List.getElem?_append_left bN]at hp;have cN:=List.mem_of_getElem? hp;have a_:q≠k:=fun e=>bf (e ▸ cN);rw[ck (a:=a) (by rw[a2];intro e;exact a_ (H.HN ((h.mem q).1 cN).1 ay (Option.some.inj e).symm))];exact hT.sr (h.ptr p q hp)
     ·have cF:=aF hp;rw[List.getElem?_append_right bN]at hp;obtain rfl:p=pend.length:=by simp at cF;omega
      rw[Nat.sub_self]at hp;cases hp;rw[a2,fz (by rw[h.hn];exact ap _ o G _ a2),show fr0.length+pend.length=(Gf fr0 N m B0 B1 listed pend).length from xP.symm];exact hv
    ·have a_:o.dst≠some t:=fun e=>H.dst (N+k) o j oj t G hj (by omega) hd e;rw[ck a_];rw[z j (by omega)]at a6;exact hT.sr (h.done j oj t aw hj hd a6)
    ·have a_:o.dst≠some t:=fun e=>by rw[a2]at e;cases e;exact al k ay rfl
     rw[ck a_];refine hT.sr (h.rest t al fun j oj aw hj hd=>?_);have:=ht j oj aw hj hd;rw[z j (by omega)]at this;exact this
   ·-- it is written
    obtain⟨k,rfl⟩:∃k,i=N+m+k:=⟨i - N - m,by omega⟩;have ay:k <m:=by omega
    obtain⟨oa,os,T,S,x,a1,s1,a2,a3,a4,s2,s3,s4,s5,s6,s7⟩:=H.pr k ay;rw[G]at s1;cases s1;obtain⟨Z,ak⟩:=am (xs:=B0) (k:=k) (by omega);obtain⟨aL,bw⟩:=am (xs:=B1) (k:=k) (by omega);have bf:k∈pend:=(h.mem k).2 ⟨ay,(ab _ s5).1⟩;obtain⟨p,hp⟩:=List.getElem?_of_mem bf;have bc:∀t,x=.tmp t->t≠cb ops (N+k):=fun t e1 e2=>s6 (by rw[e1,e2])
    have e7:∀t,x=.tmp t->∀q,q <m->t≠cb ops (N+q):=fun t e1 q hq e2=>by
     by_cases e4:q=k
     ·subst e4;exact bc t e1 e2
     ·obtain⟨_,_,_,_,_,_,_,_,_,_,_,_,_,_,_,hx⟩:=H.pr q hq;exact hx (N+m+k) o G (by omega) (by rw[s3,<- e2,e1];simp[Op.operands])
    have b0:rd (dw (E (N+m+k)) (cb ops (N+k)) (.lp (fr0.length+p) 0)) (.tmp (cb ops (N+k)))=.lp (fr0.length+p) 0:=by
     show un (dw _ _ _ _)=_
     rw[kF];rfl
    have bj:du (dw (E (N+m+k)) (cb ops (N+k)) (.lp (fr0.length+p) 0)) x=du (E (N+m+k)) x:=by
     cases x with
     |tmp t=>show dw _ _ _ t=_;rw[oD (bc t rfl)];rfl
     |_=>rfl
    have dS:(Gf fr0 N m B0 B1 listed pend)[fr0.length+p]?=some Z:=by
     rw[rX,hp,Option.map_some];unfold jP;rw[hl];show some (gB B0 k)=_
     unfold gB;rw[ak];rfl
    have c0:=d_ k Z aL ak bw o S (cb ops (N+k)) x G s3 (dw (E (N+m+k)) (cb ops (N+k)) (.lp (fr0.length+p) 0)) (Gf fr0 N m B0 B1 listed pend) (fr0.length+p) b0 (by unfold rd;rw[bj]) dS
    have aD:step g C (some effs) (N+m+k) (dw (E (N+m+k)) (cb ops (N+k)) (.lp (fr0.length+p) 0)) (Gf fr0 N m B0 B1 listed pend) o.op=some (.dead,(Gf fr0 N m B0 B1 listed pend).set (fr0.length+p) aL,[]):=by
     unfold step;simp only[(be (N+m+k)).2 ⟨by omega,by omega⟩];exact c0
    have hG:Gf fr0 N m B0 B1 (listed.setIfInBounds (N+m+k) true) pend=(Gf fr0 N m B0 B1 listed pend).set (fr0.length+p) aL:=HP h.nd hp (by
     unfold jP;rw[aH];show gB B1 k=_
     unfold gB;rw[bw];rfl) fun q _ hq=>z _ (by omega)
    unfold wpOpIn;simp only[G];rw[if_pos (by simp[Region.wanted,s4])];refine(iL hS aD κ L a w h.bF (fun y hy=>?_)).wpIn fun v w' ⟨L',hT,U,hv⟩=>?_
    ·rw[s3]at hy;have hy:y=.tmp (cb ops (N+k))\/y=x:=by simpa[Op.operands]using hy
     rcases hy with rfl|rfl
     ·show SR _ _ _ (dw _ _ _ _) _
      rw[kF];exact h.ptr p k hp
     ·rw[bj]
      cases y with
      |const v=>exact jJ v
      |global g=>exact .dead _
      |func f=>exact .t _ _ (.fn _ [] #[] #[] rfl (fun j x u hx _=>by simp at hx))
      |tmp t=>exact aA t (e7 t rfl) (.inl (by rw[s3];simp[Op.operands]))
    ·rw[<- hG]at U hv hT;refine ih pend L' _ _ _ bZ ⟨?_,?_,?_,h.nd,fun q=>?_,U,fun p' q e0=>?_,fun j oj t aw hj hd a6=>?_,fun t al ht=>?_,an⟩
     ·rw[put_defers];exact h.hd.tr h.bF hT
     ·rw[bQ,h.hn]
     ·rw[Array.size_setIfInBounds];exact h.hs
     ·rw[h.mem q];constructor
      ·rintro⟨q1,q2⟩;exact⟨q1,by rw[z _ (by omega)];exact q2⟩
      ·rintro⟨q1,q2⟩;exact⟨q1,by rw[z _ (by omega)]at q2;exact q2⟩
     ·rw[ck (by rw[s2];intro e;cases e)];exact hT.sr (h.ptr p' q e0)
     ·rw[ck (by rw[s2];intro e;cases e)];rw[z j (by omega)]at a6;exact hT.sr (h.done j oj t aw hj hd a6)
     ·rw[ck (by rw[s2];intro e;cases e)];refine hT.sr (h.rest t al fun j oj aw hj hd=>?_);have:=ht j oj aw hj hd;rw[z j (by omega)]at this;exact this
def HR{al:Option Nat}{dn:Nat}(hS:fy g.P γ C)(hok:ur ops effs=true)(V:lN n ops.toList=true){env env':Env}{fr fr':Fr}(he:oy g C effs ops env fr=some (env',fr')){Q:Exit->Act->World->Prop}
  (hK:∀L a w,Marks κ w a.defers->a.tmps.size=n->av γ κ fr' L w->(∀t,SR (MA κ.M fr' L) L w (env' t) (a.tmps.getD t undef))->Q .normal a w)(hd:Marks κ w a.defers)(hn:a.tmps.size=n)(hC:av γ κ fr L w)(hV:∀t,SR (MA κ.M fr L) L w (env t) (a.tmps.getD t undef)):wpAnyIn (Fw al) dn g.P .any ops Q ops.size (Array.replicate ops.size false) a w:=by
 obtain⟨N,m,Z,⟨r,D⟩,H⟩:=HM hok;have z:∀i,bT effs i=true↔N<=i/\i <N+(m+m):=fun i=>by rw[Z];exact HL
 have an:=H.size;unfold oy at he;rw[D]at he;simp only at he;rw[<- D]at he;split at he
 ·cases he
 ·rename_i e1 r1 ak;split at he
  ·rename_i y;cases he;obtain⟨E,F,a1,a2,a3,a4,a5⟩:=xE ops.toList 0 env fr ak
   have G:jg g C ops effs E F:=fun i o ho=>by
    have:=a3 i o (by rw[Array.getElem?_toList];exact ho);rwa[Nat.zero_add]at this
   rw[Array.length_toList]at a4 a5
   have ab:∀i,i<=N->F i=fr:=fun i hi=>by
    rw[<- a2]
    exact ux G 0 i (Nat.zero_le _) (by omega) fun q _ I hm=>by
     have:=(z q).1 (pW.2 hm);omega
   obtain⟨B0,b1,b2,b3⟩:=Bz H G z m (Nat.le_refl _);rw[a2]at b2 b3;obtain⟨B1,c1,c2,c3⟩:=BA H G z b1 (by rw[a2];exact b2) (fun q J I=>by rw[a2];exact(b3 q J I).2) m (Nat.le_refl _);rw[List.drop_eq_nil_of_le (by omega),List.append_nil,a2,show N+m+m=ops.size by omega]at c2;unfold ox at y;rw[Bool.and_eq_true]at y;obtain⟨h1,h2⟩:=y
   have hD:∀q,q <m->E ops.size (cb ops (N+q))=.lp (fr.length+q) 0:=fun q I=>by
    obtain⟨J,ag⟩:=am (xs:=B0) (k:=q) (by omega);obtain⟨oa,_,_,_,_,g1,_,g2,_⟩:=H.pr q I;rw[oH G (cb ops (N+q)) (N+q+1) ops.size (by omega) (Nat.le_refl _) fun j o hj _ ho hd=>H.dst j o (N+q) oa _ ho g1 (by omega) g2 hd];exact(b3 q J ag).2
   refine HQ (κ:=κ) (n:=n) hS H z V G ab b1 (fun q J I=>(b3 q J I).1) c1 c3 (fun pend L' listed a' w' U hM=>?_) _ [] L _ a w ?_ (kI.start H hd hn hC fun t=>by rw[a1];exact hV t)
   ·have q1:∀b∈B1,wU b=true:=fun b hb=>List.all_eq_true.1 h1 b (by rw[<- a5,c2];simpa using hb)
    have q2:∀(i:Nat) (o:Oper) (t:Nat),i <N->ops[i]?=some o->o.dst=some t->∀r∈(E ops.size t).refs,r <fr.length:=fun i o t hi ho ad rr hr=>by
     have h3:=List.all_eq_true.1 h2 t (by
      unfold wV;rw[List.mem_filterMap];exact⟨o,List.mem_of_getElem? (i:=i) (by rw[List.getElem?_take,if_pos hi,Array.getElem?_toList];exact ho),ad⟩)
     rw[<- a4]at h3;have h4:=List.all_eq_true.1 h3 rr hr;simpa[Nat.blt_eq]using h4
    have q3:∀t,∀r∈(E 0 t).refs,r <fr.length:=fun t rr hr=>by
     rw[a1]at hr;obtain⟨u,hu⟩:=(hV t).reach rr hr;exact hC.lim _ _ hu
    have q4:∀b∈fr,∀r∈b.refs,r <fr.length:=fun b hb=>by
     obtain⟨k,hk⟩:=List.getElem?_of_mem hb;exact hC.inside hk
    have q5:∀j v,κ.L j=some v->j <fr.length:=fun j v hj=>by
     obtain⟨J,e1,_⟩:=hC.hand j v hj;exact aF e1
    obtain⟨L2,k1,k2⟩:=hM.fin H G U c1 c2 hD q1 q2 q3 q4 q5;rw[a5]at k1 k2;rw[a4]at k2;exact hK L2 a' w' hM.hd hM.hn k1 k2
   ·unfold fL;exact Nat.le_trans (List.countP_le_length) (by simp)
  ·cases he
end
section
variable {γ:Glob} {κ:Ctx} {fr:Fr} {L:Ls} {w:World}
def BC(G:av γ κ fr L w){i:Nat}{v:Value}{D:Lb}(I:L i=some v)(hb:fr[i]?=some D)(z:D.ro=true):∀b,Bk v b->MA κ.M fr L b:=fun b y=>
 ⟨(G.new i v b D I y hb).2.1,fun⟨j,u,J,h1,h2,h3,h4⟩=>by
  have:=G.dis j i u v b h1 I h2 y;subst this;rw[hb]at h3;cases h3;rw[z]at h4;cases h4⟩
mutual
theorem xQ(z:av γ κ fr L w):∀(s:SV) (v:Value),SR (MA κ.M fr L) L w s v->SR (MA κ.M fr L) L w (ez fr s) v
 | .ls i,v,h=>by
  rw[ez];split
  ·rename_i ab sz U Z;obtain⟨V,_⟩:=jb h;exact .t _ _ (ua z (fun _ h=>h) Z V fun b J=>BC z V Z rfl b (.one J))
  ·exact h
 | .agg y,v,h=>by
  rw[ez]
  cases h with
  |agg _ us hl hr=>
   obtain⟨D,G⟩:=uy z y us hr;split
   ·rename_i xs hx;obtain⟨h1,h2⟩:=ot (A:=MA κ.M fr L) (L:=L) (w:=w) hx;refine .t _ _ (.agg _ us (by rw[hl,<- D,h1]) fun j x u I hu=>?_);obtain⟨s,hs⟩:=am (xs:=kE fr y) (k:=j) (by rw[h1];exact aF I);exact h2 j s x u hs I (G j s u hs hu)
   ·exact .agg _ us (by rw[hl,D]) G
 | .aL y,v,h=>by
  rw[ez]
  cases h with
  |aL _ us hl hr=>
   obtain⟨D,G⟩:=uy z y us hr;exact .aL _ us (by rw[hl,D]) G
 | .fn f nf y,v,h=>by
  rw[ez]
  cases h with
  |fn _ _ fs us hl hr=>
   obtain⟨D,G⟩:=uy z y (fs++us) hr;exact Ap (.fn _ _ fs us (by rw[hl,D]) G)
 | .aS s,v,h=>by
  rw[ez]
  cases h with
  |aS _ _ h=>exact xQ z s v h
 | .t x,v,h=>by rw[ez]<;>first|exact h|(intros;contradiction)
 | .nil,v,h=>by rw[ez]<;>first|exact h|(intros;contradiction)
 | .tc U,v,h=>by rw[ez]<;>first|exact h|(intros;contradiction)
 | .nn U,v,h=>by rw[ez]<;>first|exact h|(intros;contradiction)
 | .lp i j,v,h=>by rw[ez]<;>first|exact h|(intros;contradiction)
 | .lv i sz a n,v,h=>by rw[ez]<;>first|exact h|(intros;contradiction)
 | .le i sz k j,v,h=>by rw[ez]<;>first|exact h|(intros;contradiction)
 | .lo i p,v,h=>by rw[ez]<;>first|exact h|(intros;contradiction)
 | .lr i p k,v,h=>by rw[ez]<;>first|exact h|(intros;contradiction)
 | .lm i,v,h=>by rw[ez]<;>first|exact h|(intros;contradiction)
 | .no,v,h=>by rw[ez]<;>first|exact h|(intros;contradiction)
 | .dead,v,h=>by rw[ez]<;>first|exact h|(intros;contradiction)
theorem uy(z:av γ κ fr L w):∀(cs:List SV) (us:Array Value),(∀(j:Nat) (x:SV) (u:Value),cs[j]?=some x->us[j]?=some u->SR (MA κ.M fr L) L w x u)->(kE fr cs).length=cs.length/\∀(j:Nat) (x:SV) (u:Value),(kE fr cs)[j]?=some x->us[j]?=some u->SR (MA κ.M fr L) L w x u
 |[],us,_=>⟨by rw[kE],fun j x u y _=>by rw[kE]at y;simp at y⟩
 |c::cs,us,D=>by
  obtain⟨G,I⟩:=uy z cs (us.extract 1 us.size) fun j x u y v=>by
   rw[Array.getElem?_extract]at v;split at v
   ·rw[Nat.add_comm]at v;exact D (j+1) x u (by simpa using y) v
   ·cases v
  rw[kE];refine⟨by simp[G],fun j x u y v=>?_⟩
  cases j with
  |zero=>cases y;exact xQ z c u (D 0 c u rfl v)
  |succ j=>
   refine I j x u (by simpa using y) ?_;have J:=(Array.getElem?_eq_some_iff.1 v).1;rw[Array.getElem?_extract,if_pos (by omega),Nat.add_comm];exact v
end
theorem BD:∀{l:List Nat},tZ fr l=true->∀i∈l,∃b,fr[i]?=some b/\b.ro=true
 |[],_,i,u=>by cases u
 |k::r,h,i,u=>by
  unfold tZ at h;split at h
  ·rename_i b v;rw[Bool.and_eq_true]at h;rcases List.mem_cons.1 u with rfl|u
   ·exact⟨b,v,h.1⟩
   ·exact BD h.2 i u
  ·cases h
def HS(z:av γ κ fr L w)(m:Nat){c:SV}{v:Value}(h:SR (MA κ.M fr L) L w c v):SR (MA κ.M fr L) L w (wY m fr c) v:=by
 unfold wY;split
 ·exact h
 ·split
  ·rename_i x J y;refine .t _ _ ((mD z (A:=MA κ.M fr L) (fun _ h=>h) deep).1 c x v J (fun i G u b I D=>?_) h);obtain⟨U,h1,h2⟩:=BD y i G;exact BC z I h1 h2 b D
  ·exact h
def xR(m:Nat)(b:Lb):(iI m fr b).ro=b.ro:=by cases b <;>rfl
def HT(m:Nat)(b:Lb):(iI m fr b).tch=b.tch:=by cases b <;>rfl
def av.HU(z:av γ κ fr L w)(m:Nat):av γ κ (fr.map (iI m fr)) L w/\∀b,MA κ.M fr L b↔MA κ.M (fr.map (iI m fr)) L b:=by
 have G:∀(i:Nat) (y:Lb),(fr.map (iI m fr))[i]?=some y->∃D,fr[i]?=some D/\y=iI m fr D:=fun i y h=>by
  rw[List.getElem?_map]at h
  cases hf:fr[i]? with
  |none=>rw[hf]at h;cases h
  |some D=>rw[hf]at h;cases h;exact⟨D,rfl,rfl⟩
 have ad:∀b,Own fr L b↔Own (fr.map (iI m fr)) L b:=fun b=>by
  constructor
  ·rintro⟨i,v,D,h1,h2,h3,h4⟩;exact⟨i,v,iI m fr D,h1,h2,by rw[List.getElem?_map,h3];rfl,by rw[xR];exact h4⟩
  ·rintro⟨i,v,y,h1,h2,h3,h4⟩;obtain⟨D,I,rfl⟩:=G i y h3;rw[xR]at h4;exact⟨i,v,D,h1,h2,I,h4⟩
 have Z:∀b,MA κ.M fr L b↔MA κ.M (fr.map (iI m fr)) L b:=fun b=>by unfold MA;rw[ad b]
 have ag:∀{x:SV} {v:Value},SR (MA κ.M fr L) L w x v->SR (MA κ.M (fr.map (iI m fr)) L) L w x v:=fun h=>SR.on (Nat.le_refl _) (fun b _ U=>⟨(Z b).1 U,rfl⟩) (fun _ _ h=>h) h;have ak:∀{x:AV} {v:Value},VR (MA κ.M fr L) w x v->VR (MA κ.M (fr.map (iI m fr)) L) w x v:=fun h=>VR.on (Nat.le_refl _) (fun b _ U=>⟨(Z b).1 U,rfl⟩) h;refine⟨⟨z.glob,z.gn,z.gx,z.fresh,z.os,z.tape,z.output,z.size,z.kept,fun i v h=>by rw[List.length_map];exact z.lim i v h,fun i v b y h1 h2 h3=>?_,z.dis,fun j v h=>?_,fun i y h=>?_⟩,Z⟩
 ·obtain⟨D,I,rfl⟩:=G i y h3;rw[xR];exact z.new i v b D h1 h2 I
 ·obtain⟨D,h1,h2⟩:=z.hand j v h;exact⟨iI m fr D,by rw[List.getElem?_map,h1];rfl,fun ht=>h2 (by rw[HT]at ht;exact ht)⟩
 ·obtain⟨D,I,rfl⟩:=G i y h;have U:=z.blk i D I
  cases D with
  |box ro T cs=>
   obtain⟨g,us,h1,h2,h3,h4⟩:=U;refine⟨g,us,h1,h2,by rw[List.length_map];exact h3,fun j x u J hu=>?_⟩;rw[List.getElem?_map]at J
   cases hc:cs[j]? with
   |none=>rw[hc]at J;cases J
   |some c=>rw[hc]at J;cases J;exact ag (HS z m (h4 j c u hc hu))
  |row ro al sz es=>
   obtain⟨T,v,us,h1,h2,h3,h4,I⟩:=U
   exact⟨T,v,us,h1,h2,h3,h4,fun k j cs x hk hj=>by
    obtain⟨u,e1,e2⟩:=I k j cs x hk hj;exact⟨u,e1,ak e2⟩⟩
  |map ro ks vs=>
   obtain⟨r,ab,V,h1,h2,h3,h4,I,h6,h7⟩:=U;exact⟨r,ab,V,h1,h2,h3,h4,fun j x u J hu=>ak (I j x u J hu),fun j x u J hu=>ag (h6 j x u J hu),h7⟩
  |own ro x=>exact U
theorem rY:∀(l u:List Nat),∃r,cx u l=u++r
 |[],u=>⟨[],by unfold cx;simp⟩
 |i::l,u=>by
  unfold cx;split
  ·exact rY l u
  ·obtain⟨r,h⟩:=rY l (u++[i]);exact⟨i::r,by rw[h];simp⟩
theorem xS:∀(l u:List Nat) (i:Nat),i∈u\/i∈l->i∈cx u l
 |[],u,i,h=>by unfold cx;simpa using h
 |k::l,u,i,h=>by
  unfold cx;split
  ·rename_i v;refine xS l u i ?_;rcases h with h|h
   ·exact .inl h
   ·rcases List.mem_cons.1 h with rfl|h
    ·exact .inl (pW.1 v)
    ·exact .inr h
  ·refine xS l _ i ?_;rcases h with h|h
   ·exact .inl (by simp[h])
   ·rcases List.mem_cons.1 h with rfl|h
    ·exact .inl (by simp)
    ·exact .inr h
theorem uz:∀(m:Nat) (bs:Fr) (j:Nat),(gb m bs)[j]?=(bs[j]?).map fun b=>if j <m then b else cL b
 |_,[],j=>by simp[gb]
 |0,b::bs,0=>by simp[gb]
 |0,b::bs,j+1=>by
  have:=uz 0 bs j;simp[gb,this]
 |m+1,b::bs,0=>by simp[gb]
 |m+1,b::bs,j+1=>by
  have:=uz m bs j;simp[gb,this]
theorem BE{f:Lb->Lb}:∀{l:List Nat} {bs:Fr},dx fr l=some bs->dx (fr.map f) l=some (bs.map f)
 |[],bs,h=>by unfold dx at h;cases h;rfl
 |k::r,bs,h=>by
  unfold dx at h;split at h
  ·cases h
  ·rename_i b u;split at h
   ·cases h
   ·rename_i l v;cases h;unfold dx;rw[List.getElem?_map,u];simp only[Option.map_some,BE v,List.map_cons]
theorem BF(fr:Fr):∀(n:Nat) (l:List Nat),∃r,close fr n l=l++r
 |0,l=>⟨[],by simp[close]⟩
 |n+1,l=>by
  unfold close;obtain⟨r,h1⟩:=rY (tT fr l) l;obtain⟨q,h2⟩:=BF fr n (cx l (tT fr l));exact⟨r++q,by rw[h2,h1,List.append_assoc]⟩
def BG{F:Fr}(U:av γ κ F L w){m:Nat}(hm:∀j v,κ.L j=some v->j <m){r1:SV}{v:Value}{u:List Nat}{B:Fr}(al:u.Nodup)(ak:∀j,j <m->u[j]?=some j)(ab:dx F u=some B)(an:SR (MA κ.M F L) L w r1 v):
  ∃L',av γ κ (gb m (B.map (Lb.sub (aX u)))) L' w/\SR (MA κ.M (gb m (B.map (Lb.sub (aX u)))) L') L' w (r1.sub (aX u)) v:=by
 obtain⟨Z,V⟩:=ui ab
 have ad:∀(j:Nat) (z:Lb),(gb m (B.map (Lb.sub (aX u))))[j]?=some z->∃(i:Nat) (D:Lb),u[j]?=some i/\F[i]?=some D/\z=if j <m then D.sub (aX u)else cL (D.sub (aX u)):=fun j z y=>by
  rw[uz,List.getElem?_map]at y
  cases I:B[j]? with
  |none=>rw[I]at y;cases y
  |some D=>
   rw[I]at y;cases y;obtain⟨i,hi⟩:=am (xs:=u) (k:=j) (by rw[<- Z];exact aF I);obtain⟨b,h1,h2⟩:=V j i hi;rw[I]at h2;cases h2;exact⟨i,D,hi,h1,rfl⟩
 have G:(gb m (B.map (Lb.sub (aX u)))).length=u.length:=by
  rw[<- Z]
  have:∀(m:Nat) (bs:Fr),(gb m bs).length=bs.length:=fun m bs=>by
   induction bs generalizing m with
   |nil=>cases m <;>rfl
   |cons b bs ih=>cases m <;>simp[gb,ih]
  rw[this,List.length_map]
 obtain⟨h1,h2,h3⟩:=U.rI (gb m (B.map (Lb.sub (aX u)))) (fun j=>u.getD j 0) (aX u) (fun j k y hk e=>by
   rw[G]at y hk;have J:u[j]?=some (u.getD j 0):=by rw[List.getD_eq_getElem?_getD,List.getElem?_eq_getElem y];rfl
   have ek:u[k]?=some (u.getD k 0):=by rw[List.getD_eq_getElem?_getD,List.getElem?_eq_getElem hk];rfl
   rw[e]at J;exact uk al J ek) (fun i j v hi hv=>by
   have:=uj hi;exact⟨by rw[G];exact aF this,by rw[List.getD_eq_getElem?_getD,this];rfl⟩) (fun j z y=>by
   obtain⟨i,D,e1,e2,rfl⟩:=ad j z y;refine⟨D,by rw[List.getD_eq_getElem?_getD,e1];exact e2,?_⟩;split
   ·exact ny _ _
   ·exact xl (ny _ _)) (fun j v y=>by
   have ag:=hm j v y;have J:u[j]?=some j:=ak j ag;obtain⟨D,e1,_⟩:=U.hand j v y;obtain⟨ao,e2,e3⟩:=V j j J;rw[e1]at e2;cases e2;refine⟨D,D.sub (aX u),e1,by rw[uz,List.getElem?_map,e3];simp[ag],by rw[List.getD_eq_getElem?_getD,J];rfl,fun ht=>by rw[Lb.t_]at ht;exact ht⟩)
 exact⟨_,h1,SR.sub _ (Nat.le_refl _) (fun b _ I=>⟨h2 b I,rfl⟩) h3 an⟩
def xT(hC:av γ κ fr L w){m:Nat}(hm:∀j v,κ.L j=some v->j <m){r0 r:SV}{fr':Fr}{v:Value}(h:fin m r0 fr=some (r,fr'))(hv:SR (MA κ.M fr L) L w r0 v):∃L',av γ κ fr' L' w/\SR (MA κ.M fr' L') L' w r v:=by
 unfold fin at h;simp only at h;have z:=xQ hC _ v (ol hv);generalize ez fr (un r0)=r1 at h z;split at h
 ·rename_i u;cases h
  have au:m=0:=by
   obtain⟨q,Z⟩:=rY r.refs (List.range m);rw[Z,List.append_eq_nil_iff,List.range_eq_nil]at u;exact u.1
  have G:r.refs=[]:=by
   cases hx:r.refs with
   |nil=>rfl
   |cons i l=>
    have:=xS r.refs (List.range m) i (.inr (by rw[hx];simp));rw[u]at this;cases this
  obtain⟨h1,h2,h3⟩:=hC.rI [] (fun j=>j) (fun _=>none) (fun j k I=>by simp at I) (fun i j v h=>by cases h) (fun j lb h=>by simp at h) (fun j v I=>by have:=hm j v I;omega);exact⟨_,h1,SR.Bd (fun b _ hb=>⟨h2 b hb,rfl⟩) (Nat.le_refl _) z G⟩
 ·split at h
  ·cases h
  ·rename_i bs an;have V:(cx (List.range m) r1.refs).Nodup:=rR _ _ List.nodup_range
   have y:∀j,j <m->(cx (List.range m) r1.refs)[j]?=some j:=fun j U=>by
    obtain⟨q,Z⟩:=rY r1.refs (List.range m);rw[Z,List.getElem?_append_left (by simpa using U),List.getElem?_range U]
   generalize cx (List.range m) r1.refs=D at*
   split at h
   ·split at h
    ·cases h
    ·rename_i ao al;split at h
     ·cases h
     ·cases h;refine BG hC hm (xg fr 4 D V) (fun j I=>?_) al z;obtain⟨q,Z⟩:=BF fr 4 D;rw[Z,List.getElem?_append_left (aF (y j I))];exact y j I
   ·cases h;obtain⟨ab,ap,ag⟩:=hC.mC (inner m fr D);obtain⟨ad,ak⟩:=ab.HU m;have J:=BE (f:=iI m (freeze fr (inner m fr D))) an;exact BG ad hm V y J (SR.on (Nat.le_refl _) (fun b _ hb=>⟨(ak b).1 (ag b hb),rfl⟩) (fun _ _ h=>h) z)
end
def dz:Code->Bool
 | .seq a b=>dz a&&dz b
 | .cond _ a b=>dz a&&dz b
 | .block _ b=>dz b
 | .loop b=>dz b
 | .rangeFunc ..=>false
 |_=>true
def uA(γ:Glob)(P:Program)(G:Nat)(I:Array Value)(T:AV->Value->Prop)(yss:List (List AV))(wh:Bool):Prop:=
 gh P G/\∀(l:Nat) (J:List (List AV)->(Nat->Prop)->World->Prop) (z:World->Prop) (A:Nat->Prop) (W:World),
  (∀r A X Y,J r A X->Below X.heap.size X Y->J r A Y)->(∀X Y,z X->Below X.heap.size X Y->z Y)->
  (∀r A X,J r A X->av γ ⟨A,fun _=>False,fun _=>False,X,fun _=>none⟩ [] (fun _=>none) X/\∀x v,T x v->VR A X x v)->
  (wh=false->∀A X,¬J [] A X)->
  (∀(y:List AV) (r:List (List AV)) (A:Nat->Prop) (D:Array Value) (X:World),J (y::r) A X->D.size=y.length->(∀(j:Nat) (x:AV) (u:Value),y[j]?=some x->D[j]?=some u->VR A X x u)->
   ∀m,YieldAt (Fw none) m P l D X fun e Y=>(e=.returned (.bool true)/\∃A',J r A' Y)\/(e=.returned (.bool false)/\z Y))->
  J yss A W->
  ∀m,CallsIn (Fw none) m P G (#[.func (.yield l) #[] #[]]++I) W fun e Y=>(∃v,e=.returned v)/\((wh=true/\∃A',J [] A' Y)\/z Y)
def uB(xs:List AV)(v:Array Value)(x:AV)(u:Value):Prop:=∃j:Nat,xs[j]?=some x/\v[j]?=some u
def db(g:Cfg)(f n:Nat):Code->Bool
 | .region v ops u=>lN n ops.toList&&(match u with
  |true=>(match pV (g.eff f v)with
   |0=>xw ops (g.eff f v)
   |1=>xv ops (g.eff f v)
   |4=>ur ops (wT (g.eff f v))
   |_=>true)
  |false=>true)
 | .seq a b=>db g f n a&&db g f n b
 | .cond _ a b=>db g f n a&&db g f n b
 | .block _ b=>db g f n b
 | .loop b=>db g f n b
 | .rangeFunc _ ps asg b=>db g f n asg&&db g f n b&&dz asg&&dz b&&ps.toList.all fun p=>Nat.blt p n
 |_=>true
def oI(g:Cfg)(f:Nat):Bool:=match g.P.funcs[f]? with
 |none=>false
 |some fn=>match fn.body with
  |none=>false
  |some c=>db g f fn.ntmps c&&!(fn.name== "runtime.NumGoroutine")&&Nat.ble fn.results.size 4
structure Wf (g:Cfg) (γ:Glob):Prop where
 seq:∀(gf:Nat) (xs:List AV) (yss:List (List AV)) (wh:Bool),g.seq gf xs=some (yss,wh)->∀(lb:Array Value),lb.size=xs.length->uA γ g.P gf lb (uB xs lb) yss wh:=by intro _ _ _ _ h;cases h
 mixed:g.P.follows .mixedOrders=true
 rZ:∀f,g.ok f=true->oI g f=true
 ext:∀(f:Nat) (xs:List AV) (r:SV) (fr':Fr),g.ext f xs=some (r,fr')->gh g.P f/\∀(κ:Ctx) (w:World) (us:Array Value),av γ κ [] κ.L w->κ.W=w->us.size=xs.length->(∀(j:Nat) (x:AV) (u:Value),xs[j]?=some x->us[j]?=some u->VR (MA κ.M [] κ.L) w x u)->
  Calls g.P f us w fun e w'=>∃v L',e=.returned v/\av γ κ fr' L' w'/\SR (MA κ.M fr' L') L' w' r v
 exh:fy g.P γ g.exh:=by intro _ _ _ _ _ h;cases h
def Out.uC:Out->Exit
 | .normal=>.normal
 | .exit u=>.exit u
 | .ret=>.ret
def At(γ:Glob)(κ:Ctx)(n:Nat)(env:Env)(fr:Fr)(a:Act)(w:World):Prop:=Marks κ w a.defers/\a.tmps.size=n/\∃L,av γ κ fr L w/\∀t,SR (MA κ.M fr L) L w (env t) (a.tmps.getD t undef)
def lR(γ:Glob)(κ:Ctx)(n:Nat)(o:Out)(env:Env)(fr:Fr):Exit->Act->World->Prop:=fun e a w=>e=o.uC/\At γ κ n env fr a w
def r5(g:Cfg)(γ:Glob)(Lp:LoopF):Prop:=∀(f:Nat) (b:Code) (env:Env) (fr:Fr) (o:Out) (u:Env) (fr':Fr),Lp f b env fr=some (o,u,fr')->∀n,db g f n b=true->∀(κ:Ctx) rd dn a w,((rd=none/\¬κ.H κ.W.heap.size)\/dz b=true)->At γ κ n env fr a w->(Code.loop b).wpIn (Fw rd) dn g.P (lR γ κ n o u fr') a w
section
variable {g:Cfg} {γ:Glob} {κ:Ctx} {C:CallF} {Lp:LoopF} {n:Nat}
def HV{fr:Fr}{L:Ls}{i:Nat}{D lb':Lb}(hi:fr[i]?=some D)(z:lb'.ro=D.ro)(b:Nat):Own (fr.set i lb') L b↔Own fr L b:=by
 have y:=aF hi;constructor
 ·rintro⟨j,v,x,h1,h2,h3,h4⟩;by_cases u:i=j
  ·subst u;rw[List.getElem?_set_self y]at h3;cases h3;exact⟨i,v,D,h1,h2,hi,z ▸ h4⟩
  ·rw[List.getElem?_set_ne u]at h3;exact⟨j,v,x,h1,h2,h3,h4⟩
 ·rintro⟨j,v,x,h1,h2,h3,h4⟩;by_cases u:i=j
  ·subst u;rw[hi]at h3;cases h3;exact⟨i,v,lb',h1,h2,List.getElem?_set_self y,z.trans h4⟩
  ·exact⟨j,v,x,h1,h2,by rw[List.getElem?_set_ne u];exact h3,h4⟩
def av.HX{fr:Fr}{L:Ls}{w:World}(u:av γ κ fr L w){i:Nat}{V lb':Lb}(hi:fr[i]?=some V)(I:lb'.ro=V.ro)(ht:lb'.tch=V.tch)(hb:jF (MA κ.M fr L) L w i lb'):av γ κ (fr.set i lb') L w/\MA κ.M (fr.set i lb') L=MA κ.M fr L:=by
 have D:=aF hi
 have hM:MA κ.M (fr.set i lb') L=MA κ.M fr L:=by
  funext b;unfold MA;rw[propext (HV hi I b)]
 have Z:∀{j:Nat} {x:Lb},(fr.set i lb')[j]?=some x->∃y:Lb,fr[j]?=some y/\x.ro=y.ro/\x.tch=y.tch:=fun{j x} h=>by
  by_cases G:i=j
  ·subst G;rw[List.getElem?_set_self D]at h;cases h;exact⟨V,hi,I,ht⟩
  ·rw[List.getElem?_set_ne G]at h;exact⟨x,h,rfl,rfl⟩
 refine⟨?_,hM⟩
 exact{
  glob:=u.glob
  gn:=u.gn
  gx:=u.gx
  fresh:=u.fresh
  os:=u.os
  tape:=u.tape
  output:=u.output
  size:=u.size
  kept:=u.kept
  lim:=fun j v G=>by rw[List.length_set];exact u.lim j v G
  new:=fun j v b x h1 h2 h3=>by
   obtain⟨y,J,hr,_⟩:=Z h3;obtain⟨q1,q2,q3,q4⟩:=u.new j v b y h1 h2 J;exact⟨q1,q2,q3,fun h=>q4 (hr ▸ h)⟩
  dis:=u.dis
  hand:=fun j v G=>by
   obtain⟨y,J,hl⟩:=u.hand j v G;by_cases z:i=j
   ·subst z;rw[hi]at J;cases J;exact⟨lb',List.getElem?_set_self D,fun h=>hl (ht ▸ h)⟩
   ·exact⟨y,by rw[List.getElem?_set_ne z];exact J,hl⟩
  blk:=fun j x U=>by
   rw[hM];by_cases z:i=j
   ·subst z;rw[List.getElem?_set_self D]at U;cases U;exact hb
   ·rw[List.getElem?_set_ne z]at U;exact u.blk j x U}
def BH{fr:Fr}{s:SV}{i:Nat}{T:TypeId}(h:tX fr s=some (i,T)):fr[i]?=some (.box false T [.nil]):=by
 unfold tX at h;split at h
 ·split at h
  ·rename_i u;cases h;exact u
  ·cases h
 ·cases h
theorem BI{fr:Fr}{i:Nat}{T:TypeId}:∀{l:List SV},tY fr l=some (i,T)->fr[i]?=some (.box false T [.nil])
 |[],h=>by cases h
 |s::r,h=>by
  unfold tY at h;split at h
  ·rename_i x u;cases h;exact BH u
  ·exact BI h
def HY{fr:Fr}{s:SV}{i:Nat}{T:TypeId}(h:wX fr s=some (i,T)):fr[i]?=some (.box false T [.nil]):=by
 unfold wX at h;split at h
 ·exact BI h
 ·exact BH h
theorem At.own{env:Env}{fr:Fr}{a:Act}{w:World}:∀(sl:List (Nat×Nat)) (env:Env) (fr:Fr),At γ κ n env fr a w->At γ κ n (f_ sl env fr).1 (f_ sl env fr).2 a w
 |[],env,fr,h=>h
 |(t,sz)::r,env,fr,h=>by
  have al:(∀(L:Ls),SR (MA κ.M fr L) L w (env t) (a.tmps.getD t undef)->∃q,a.tmps.getD t undef=.slice q 0 0)->At γ κ n (dw env t (.ls fr.length)) (fr++[.row false false sz []]) a w:=fun hq=>by
   obtain⟨h1,h2,L,y,I⟩:=h;obtain⟨q,hq⟩:=hq L (I t);obtain⟨v,hT⟩:=y.push (Below.refl _ _) (.row false false sz []) (.slice q 0 0) (fun b hb=>by cases q <;>cases hb) fun hT=>⟨0,_,[],bY,.inl ⟨rfl,rfl,q,rfl⟩,by rw[List.length_nil];omega,fun k cs V=>by simp at V,fun k j cs x V _=>by simp at V⟩;refine⟨h1,h2,_,v,fun u=>?_⟩;by_cases G:u=t
   ·subst G;rw[kF,hq];exact .ls _ _ bY rfl
   ·rw[oD G];exact hT.sr (I u)
  unfold f_;split
  ·split
   ·rename_i x hx;refine At.own (env:=env) (fr:=fr) r _ _ ?_;obtain⟨h1,h2,L,y,I⟩:=h;obtain⟨ao,aA,aw⟩:=y.mC (mo fr deep (un (env t)));refine⟨h1,h2,L,ao,fun u=>?_⟩;by_cases G:u=t
    ·subst G;rw[kF];exact .t _ _ ((mD y aw deep).1 _ x _ hx (nz y) (ol (I u)))
    ·rw[oD G];exact aA.sr (I u)
   ·exact At.own (env:=env) (fr:=fr) r _ _ h
  split
  ·rename_i he;exact At.own (env:=env) (fr:=fr) r _ _ (al fun L hs=>by rw[he]at hs;generalize a.tmps.getD t undef=z at hs;cases hs;exact⟨none,rfl⟩)
  ·rename_i he;exact At.own (env:=env) (fr:=fr) r _ _ (al fun L hs=>by rw[he]at hs;generalize a.tmps.getD t undef=z at hs;cases hs with|tc _ q _=>exact⟨q,rfl⟩)
  ·split
   ·rename_i i T aE;have J:=HY aE;refine At.own (env:=env) (fr:=fr) r _ _ ?_;obtain⟨h1,h2,L,y,I⟩:=h;obtain⟨g,Z,hL,hg,aH,aI⟩:=y.blk i _ J;have aR:Z.size=1:=aH;have ak:Z[0]?=some Z[0]:=Array.getElem?_eq_getElem (by omega);have h0:=aI 0 .nil Z[0] rfl ak
    have hv:Z[0]=.slice none 0 0:=by
     generalize Z[0]=z at h0;cases h0;rfl
    obtain⟨v,hT⟩:=y.push (Below.refl _ _) (.row false false sz []) (.slice none 0 0) (fun b hb=>by cases hb) fun hT=>⟨0,_,[],bY,.inl ⟨rfl,rfl,none,rfl⟩,by rw[List.length_nil];omega,fun k cs V=>by simp at V,fun k j cs x V _=>by simp at V⟩;have ad:=aF J;have D:(fr++[Lb.row false false sz []])[i]?=some (.box false T [.nil]):=by rw[List.getElem?_append_left ad];exact J
    have au:=v.blk i _ D;obtain⟨g',an,ab,U,ag,aL⟩:=au
    have aD:g'=g/\an=Z:=by
     have e1:=hT.sr (SR.lp i 0 g hL)
     cases e1 with
     |lp _ _ _ hq=>
      rw[ab]at hq;cases hq;rw[hg]at U;cases U;exact⟨rfl,rfl⟩
    obtain⟨rfl,rfl⟩:=aD
    obtain⟨ap,ay⟩:=v.HX D (lb':=.box false T [.ls fr.length]) rfl rfl ⟨g',an,ab,U,ag,fun j x u hx G=>by
     match j with
     |0=>
      cases hx;rw[ak]at G;cases G;rw[hv];exact .ls _ _ bY rfl
     |j+1=>simp at hx⟩
    have e:fr.set i (.box false T [.ls fr.length])++[Lb.row false false sz []]=(fr++[Lb.row false false sz []]).set i (.box false T [.ls fr.length]):=by
     rw[List.set_append_left _ _ ad]
    rw[e];refine⟨h1,h2,_,ap,fun u=>?_⟩;rw[ay];exact hT.sr (I u)
   ·exact At.own (env:=env) (fr:=fr) r _ _ h
theorem nD{A:Nat->Prop}{L:Ls}{w:World}{tm:Nat->Value}:∀(l:List (Nat×SV)),(∀p∈l,SR A L w p.2 (tm p.1))->∀t,SR A L w (cZ l t) (tm t)
 |[],_,t=>.dead _
 |(k,v)::r,h,t=>by
  unfold cZ;split
  ·rename_i y;obtain rfl:t=k:=by simpa using y
   exact h (t,v) (by simp)
  ·exact nD r (fun p u=>h p (by simp[u])) t
def BJ(h:Nat)(fr:Fr):Go.Proofs.YtjolgbkkocjpgaaGreatDoor.trim h (freeze fr ((List.range fr.length).filter (Nat.ble h)))=Go.Proofs.YtjolgbkkocjpgaaGreatDoor.trim h fr:=by
 unfold Go.Proofs.YtjolgbkkocjpgaaGreatDoor.trim;rw[pX];split
 ·rename_i u;rw[Nat.ble_eq]at u
  have:(List.range fr.length).filter (Nat.ble h)=[]:=by
   rw[List.filter_eq_nil_iff];intro i v;have:=List.mem_range.1 v;rw[Nat.ble_eq];omega
  rw[this];rfl
 ·congr 1;apply List.ext_getElem?;intro j;rw[List.getElem?_take,List.getElem?_take];split
  ·rename_i D;rw[rH]
   have:bT ((List.range fr.length).filter (Nat.ble h)) j=false:=by
    rw[iq];intro y;have:=(List.mem_filter.1 y).2;rw[Nat.ble_eq]at this;omega
   rw[this]
   cases fr[j]? with
   |none=>rfl
   |some z=>cases z <;>rfl
  ·rfl
def At.handed{env:Env}{fr:Fr}{a:Act}{w:World}(u:At γ κ n env fr a w):∀j v,κ.L j=some v->j <fr.length:=fun j v z=>by
 obtain⟨_,_,L,y,_⟩:=u;obtain⟨D,h1,_⟩:=y.hand j v z;exact aF h1
theorem At.head{lv:Option (List Nat)}{h:Nat}{env:Env}{fr:Fr}{a:Act}{w:World}(J:At γ κ n env fr a w)(hh:∀j v,κ.L j=some v->j <h):At γ κ n (head lv h env fr).1 (head lv h env fr).2 a w:=by
 unfold Go.Proofs.YtjolgbkkocjpgaaGreatDoor.head;split
 ·exact J
 ·rename_i l
  have hh:∀j v,κ.L j=some v->j <jM l h fr:=fun j v hj=>by
   unfold jM;split
   ·exact J.handed j v hj
   ·exact hh j v hj
  simp only;generalize jM l h fr=h at hh⊢;obtain⟨h1,h2,L,G,hV⟩:=J;obtain⟨U,z,V⟩:=G.mC ((List.range fr.length).filter (Nat.ble h));obtain⟨L',y,I⟩:=U.trim h hh;rw[BJ]at y I;refine⟨h1,h2,L',y,fun t=>nD (tm:=fun t=>a.tmps.getD t undef) _ (fun p hp=>?_) t⟩;obtain⟨k,_,rfl⟩:=List.mem_map.1 hp;have Z:=ol (hV k);show SR _ _ _ (nt fr h (un (env k))) _
  unfold nt;split
  ·exact I _ _ (z.sr Z)
  ·split
   ·rename_i x D hx
    have hv:=(mD G V deep).1 _ x _ hx (fun i hi u b hu hb=>by
     refine nz G i ?_ u b hu hb;have:=List.all_eq_true.1 D i hi;exact List.mem_filter.2 ⟨List.mem_range.2 (G.lim i u hu),this⟩) Z
    have:=I _ _ (SR.t x _ hv);rw[SV.sub]at this;exact this
   ·exact I _ _ (z.sr Z)
end
section
variable {γ:Glob} {κ:Ctx} {fr:Fr} {L:Ls} {w:World}
def Marks.below{w':World}{ds:List Deferred}(h:Marks κ w ds)(hb:Below w.heap.size w w'):Marks κ w' ds:=by
 obtain⟨⟨v,h1,h2,h3⟩,h4⟩:=h;exact⟨⟨v,h1,h2,fun D u=>⟨(h3 D u).1,(hb.block D (Array.getElem?_eq_some_iff.1 (h3 D u).2).1).trans (h3 D u).2⟩⟩,h4⟩
def Marks.put{l:Nat}{r:Loop}{o:Obj}{ds:List Deferred}(h:Marks κ w ds)(hl:w.heap[l]?=some (.loop r)):Marks κ (w.putObj l o) ds:=by
 obtain⟨⟨y,h1,h2,h3⟩,h4⟩:=h;refine⟨⟨y,h1,h2,fun D u=>⟨(h3 D u).1,?_⟩⟩,h4⟩;have v:D≠l:=fun e=>by subst e;rw[(h3 D u).2]at hl;cases hl
 exact(World.putObj_heap_other v).trans (h3 D u).2
def av.BK(h:av γ κ fr L w){W1 D:World}(hW:Lq γ.n κ.W W1)(hw:Lq γ.n w D)(hk:∀k,k <κ.W.heap.size->¬κ.X k->D.heap[k]?=W1.heap[k]?):av γ ⟨κ.M,κ.X,κ.H,W1,κ.L⟩ fr L D where
 glob:=γ.stays _ _ h.glob fun k hk=>by
  rcases hw.blk k with h1|⟨J,_⟩
  ·exact h1
  ·omega
 gn:=by show γ.n<=W1.heap.size;rw[hW.size];exact h.gn
 gx:=fun b y=>by show _/\b <W1.heap.size;rw[hW.size];exact h.gx b y
 fresh:=fun b y=>h.fresh b (by have y:W1.heap.size<=b:=y;rw[hW.size]at y;exact y)
 os:=(hw.os.trans h.os).trans hW.os.symm
 tape:=(hw.tape.trans h.tape).trans hW.tape.symm
 output:=(hw.output.trans h.output).trans hW.output.symm
 size:=by show W1.heap.size<=_;rw[hW.size,hw.size];exact h.size
 kept:=fun k u I=>hk k (by have u:k <W1.heap.size:=u;rw[hW.size]at u;exact u) I
 lim:=h.lim
 new:=fun i v b z h1 h2 h3=>by
  show _/\_/\(W1.heap.size<=b\/_)/\(_->W1.heap.size<=b\/_)
  rw[hw.size,hW.size];exact h.new i v b z h1 h2 h3
 dis:=h.dis
 hand:=h.hand
 blk:=fun i z G=>(h.blk i z G).lq hw
theorem BL{A:Nat->Prop}:∀(z:List Nat) (ys:List AV) (us:List Value) (env:Env) (tm:Array Value),z.length=ys.length->us.length=ys.length->(∀p∈z,p <tm.size)->(∀t,SR A L w (env t) (tm.getD t undef))->(∀(j:Nat) (x:AV) (u:Value),ys[j]?=some x->us[j]?=some u->VR A w x u)->
  ∀t,SR A L w (nu z ys env t) (((z.zip us).foldl (fun t (p,v)=>t.setIfInBounds p v) tm).getD t undef)
 |[],ys,us,env,tm,_,_,_,h,_=>by unfold nu;simpa using h
 |p::z,[],us,env,tm,h1,_,_,_,_=>by cases h1
 |p::z,y::ys,[],env,tm,_,h2,_,_,_=>by cases h2
 |p::z,y::ys,u::us,env,tm,h1,h2,G,h,I=>by
  unfold nu;rw[List.zip_cons_cons,List.foldl_cons];refine BL z ys us _ _ (by simpa using h1) (by simpa using h2) (fun q J=>by rw[Array.size_setIfInBounds];exact G q (by simp[J])) (fun t=>?_) (fun j x v V U=>I (j+1) x v (by simpa using V) (by simpa using U)) ;by_cases D:t=p
  ·subst D;rw[kF,Array.getD_eq_getD_getElem?,Array.getElem?_setIfInBounds_self_of_lt (G t (by simp))];exact .t _ _ (I 0 y u rfl rfl)
  ·rw[oD D,Array.getD_eq_getD_getElem?,Array.getElem?_setIfInBounds_ne (Ne.symm D),<- Array.getD_eq_getD_getElem?];exact h t
theorem BM:∀(l:List (Nat×Value)) (tm:Array Value),(l.foldl (fun t (p,v)=>t.setIfInBounds p v) tm).size=tm.size
 |[],_=>rfl
 |(p,v)::l,tm=>by rw[List.foldl_cons,BM l];exact Array.size_setIfInBounds
def Out.code:Out->Code
 | .normal=>.skip
 | .exit u=>.exit u
 | .ret=>.ret
structure fM (γ:Glob) (κ:Ctx) (T:AV->Value->Prop) (S:Nat) (lo:Loop) (tm:Array Value) (ds:List Deferred) (env:Env) (fr:Fr) (L:Ls) (X:World):Prop where
 bF:av γ κ fr L X
 env:∀t,SR (MA κ.M fr L) L X (env t) (tm.getD t undef)
 cap:∀x v,T x v->VR (MA κ.M fr L) X x v
 marks:Marks κ X ds
 fN:X.heap[S+1]?=some (.loop lo)
 lS:X.heap[S]?=some (.deferred (some []))
variable {T:AV->Value->Prop} {S:Nat} {lo lo':Loop} {tm:Array Value} {ds:List Deferred} {env:Env} {X Y:World}
theorem fM.below(h:fM γ κ T S lo tm ds env fr L X)(hb:Below X.heap.size X Y):fM γ κ T S lo tm ds env fr L Y where
 bF:=h.bF.later hb
 env:=fun t=>(h.env t).later hb
 cap:=fun x v u=>(h.cap x v u).later hb
 marks:=h.marks.below hb
 fN:=(hb.block _ (Array.getElem?_eq_some_iff.1 h.fN).1).trans h.fN
 lS:=(hb.block _ (Array.getElem?_eq_some_iff.1 h.lS).1).trans h.lS
theorem fM.put(y:κ.W.heap.size<=S)(h:fM γ κ T S lo tm ds env fr L X):fM γ κ T S lo' tm ds env fr L (X.putObj (S+1) (.loop lo')) where
 bF:=h.bF.lq (Lq.put (by omega) h.fN rfl)
 env:=fun t=>(h.env t).lq (Lq.put (B:=S+1) (Nat.le_refl _) h.fN rfl)
 cap:=fun x v u=>(h.cap x v u).lq (Lq.put (B:=S+1) (Nat.le_refl _) h.fN rfl)
 marks:=h.marks.put h.fN
 fN:=World.putObj_heap_same (Array.getElem?_eq_some_iff.1 h.fN).1
 lS:=(World.putObj_heap_other (by omega)).trans h.lS
theorem fM.head{lv:Option (List Nat)}{h:Nat}(y:fM γ κ T S lo tm ds env fr L X)(hh:∀j v,κ.L j=some v->j <h):∃L',fM γ κ T S lo tm ds (head lv h env fr).1 (head lv h env fr).2 L' X:=by
 unfold Go.Proofs.YtjolgbkkocjpgaaGreatDoor.head;split
 ·exact⟨L,y⟩
 ·rename_i l
  have hh:∀j v,κ.L j=some v->j <jM l h fr:=fun j v hj=>by
   unfold jM;split
   ·obtain⟨lb,h1,_⟩:=y.bF.hand j v hj;exact aF h1
   ·exact hh j v hj
  simp only;generalize jM l h fr=h at hh⊢;obtain⟨J,z,U⟩:=y.bF.mC ((List.range fr.length).filter (Nat.ble h));obtain⟨L',D,G⟩:=J.trim h hh;rw[BJ]at D G;refine⟨L',D,fun t=>nD (tm:=fun t=>tm.getD t undef) _ (fun p hp=>?_) t,fun x v hx=>?_,y.marks,y.fN,y.lS⟩
  ·obtain⟨k,_,rfl⟩:=List.mem_map.1 hp;have V:=ol (y.env k);show SR _ _ _ (nt fr h (un (env k))) _
   unfold nt;split
   ·exact G _ _ (z.sr V)
   ·split
    ·rename_i x I hx
     have Z:=(mD y.bF U deep).1 _ x _ hx (fun i hi u b hu hb=>by
      refine nz y.bF i ?_ u b hu hb;have:=List.all_eq_true.1 I i hi;exact List.mem_filter.2 ⟨List.mem_range.2 (y.bF.lim i u hu),this⟩) V
     have:=G _ _ (SR.t x _ Z);rw[SV.sub]at this;exact this
    ·exact G _ _ (z.sr V)
  ·have:=G _ _ (SR.t x _ (z.vr (y.cap x v hx)));rw[SV.sub]at this
   cases this with
   |t _ _ Z=>exact Z
def Loop.HZ(h1:lo.state=.ready)(h2:lo.pending=none):{{lo with state:=.busy}with state:=.ready,pending:=none}=lo:=by
 cases lo;simp_all
def H0{g:Cfg}{n:Nat}{lv:Option (List Nat)}{A B:Env->Fr->Option (Out×Env×Fr)}{asg body:Code}
  (hA:∀env fr o env' fr',A env fr=some (o,env',fr')->∀κ l dn a w,At γ κ n env fr a w->asg.wpIn (Fw (some l)) dn g.P (lR γ κ n o env' fr') a w)
  (hB:∀env fr o env' fr',B env fr=some (o,env',fr')->∀κ l dn a w,At γ κ n env fr a w->body.wpIn (Fw (some l)) dn g.P (lR γ κ n o env' fr') a w)
  (aE:∀p∈lo.params.toList,p <n)(hS:κ.W.heap.size<=S)(h1:lo.state=.ready)(h2:lo.pending=none)(h3:lo.assign=asg)(h4:lo.body=body)(al:lo.tmps.size=n)
  (h:fM γ κ T S lo lo.tmps ds env fr L X){y:List AV}{o:Out}{e:Env}{r:Fr}(hr:kD lv A B lo.params.toList y env fr=some (o,e,r)){us:Array Value}(an:us.size=y.length)
  (hv:∀(j:Nat) (x:AV) (u:Value),y[j]?=some x->us[j]?=some u->VR (MA κ.M fr L) X x u)(m:Nat):
  YieldAt (Fw none) m g.P (S+1) us X fun en Y=>(o=.normal/\en=.returned (.bool true)/\∃L',fM γ κ T S lo lo.tmps ds e r L' Y)\/(o≠.normal/\en=.returned (.bool false)/\∃L',fM γ κ T S {lo with state:=.done,pending:=some o.code} lo.tmps ds e r L' Y):=by
 have hγ:γ.n<=S+1:=by have:=h.bF.gn;omega
 unfold kD at hr;split at hr
 ·cases hr
 rename_i J;rw[Nat.beq_eq]at J;split at hr
 ·cases hr
 rename_i bs hb;split at hr
 rotate_left
 ·cases hr
 rename_i e1 r1 ap;split at hr
 ·cases hr
 rename_i V e2 r2 au;split at hr
 ·cases hr
 rename_i aD;obtain⟨c1,c2,c3⟩:=h.bF.handed List.nodup_range hb;have ak:¬(bP κ fr L X (List.range fr.length)).X (S+1):=fun⟨i,_,v,lb,q1,q2,q3,q4⟩=>(h.bF.mark (by omega) h.fN rfl).2 ⟨i,v,lb,q1,q2,q3,q4⟩;have U:S+1 <X.heap.size:=(Array.getElem?_eq_some_iff.1 h.fN).1
 have CA:At γ (bP κ fr L X (List.range fr.length)) n (nu lo.params.toList y fun t=>(env t).sub (aX (List.range fr.length))) (bs.map fun b=>cL (b.sub (aX (List.range fr.length)))) {tmps:=(lo.params.zip us).foldl (fun t (p,v)=>t.setIfInBounds p v) lo.tmps,defers:=[]} X:=by
  have hz:(lo.params.zip us).foldl (fun t (p,v)=>t.setIfInBounds p v) lo.tmps=(lo.params.toList.zip us.toList).foldl (fun t (p,v)=>t.setIfInBounds p v) lo.tmps:=by
   rw[<- Array.foldl_toList,Array.toList_zip]
  rw[hz];refine⟨Marks.nil,(BM _ _).trans al,_,c1,BL _ _ _ _ _ (by rw[J]) (by simpa using an) (fun p hp=>by rw[al];exact aE p hp) (fun t=>c3 _ _ (h.env t)) fun j x u hx hu=>?_⟩;exact VR.on (Nat.le_refl _) (fun b _ hm=>⟨c2 b hm,rfl⟩) (hv j x u hx (by simpa using hu))
 refine⟨lo.fn,(lo.params.zip us).foldl (fun t (p,v)=>t.setIfInBounds p v) lo.tmps,asg,body,?_,roundIn_of_wpIn trivial ?_⟩
 ·have:=run_yield (P:=g.P) (args:=us) h.fN (by rw[an,J];simp);rw[h3,h4]at this;exact this
 refine wpIn_mono (hA _ _ _ _ _ ap _ (S+1) m _ X CA) fun ex a1 X1 ⟨he,m1,s1,L1,Z,aA⟩=>?_;subst he;have G:X1.heap[S+1]?=some (.loop lo):=(Z.kept (S+1) U ak).trans h.fN;refine⟨_,run_beginRound G h1,?_⟩
 have aw:av γ ⟨(bP κ fr L X (List.range fr.length)).M,(bP κ fr L X (List.range fr.length)).X,(bP κ fr L X (List.range fr.length)).H,X.putObj (S+1) (.loop {lo with state:=.busy}),(bP κ fr L X (List.range fr.length)).L⟩ r1 L1 (X1.putObj (S+1) (.loop {lo with state:=.busy})):=
  Z.BK (Lq.put hγ h.fN rfl) (Lq.put hγ G rfl) fun k hk hx=>by
   by_cases z:k=S+1
   ·subst z;rw[World.putObj_heap_same U,World.putObj_heap_same (Array.getElem?_eq_some_iff.1 G).1]
   ·rw[World.putObj_heap_other z,World.putObj_heap_other z];exact Z.kept k hk hx
 have ao:At γ _ n e1 r1 a1 (X1.putObj (S+1) (.loop {lo with state:=.busy})):=⟨by
  obtain⟨⟨Ds,n1,n2,n3⟩,n4⟩:=m1.put (o:=.loop {lo with state:=.busy}) G
  exact⟨⟨Ds,n1,n2,fun D hD=>⟨by
   show(X.putObj (S+1) _).heap.size<=D
   rw[World.putObj_size];exact(n3 D hD).1,(n3 D hD).2⟩⟩,fun hh=>n4 (by
   have hh:(bP κ fr L X (List.range fr.length)).H (X.putObj (S+1) (.loop {lo with state:=.busy})).heap.size:=hh;rw[World.putObj_size]at hh;exact hh)⟩,s1,L1,aw,fun t=>(aA t).lq (Lq.put (B:=S+1) (Nat.le_refl _) G rfl)⟩
 refine wpIn_mono (hB _ _ _ _ _ au _ (S+1) m a1 _ ao) fun ex a3 X3 ⟨he,_,_,L3,ab,aH⟩=>?_;subst he;have I:X3.heap[S+1]?=some (.loop {lo with state:=.busy}):=(ab.kept (S+1) (by show S+1 <(X.putObj (S+1) _).heap.size;rw[World.putObj_size];exact U) ak).trans (World.putObj_heap_same U)
 have ay:av γ (bP κ fr L X (List.range fr.length)) r2 L3 (X3.putObj (S+1) (.loop lo)):=by
  refine ab.BK (W1:=X) ⟨rfl,rfl,rfl,World.putObj_size.symm,fun b=>?_⟩ (Lq.put hγ I rfl) fun k hk hx=>?_
  ·by_cases ag:b=S+1
   ·subst ag;exact .inr ⟨hγ,_,World.putObj_heap_same U,rfl⟩
   ·exact .inl (World.putObj_heap_other ag).symm
  ·by_cases z:k=S+1
   ·subst z;rw[World.putObj_heap_same (Array.getElem?_eq_some_iff.1 I).1];exact h.fN.symm
   ·rw[World.putObj_heap_other z,ab.kept k hk hx];exact World.putObj_heap_other z
 obtain⟨b1,b2,b3,b4⟩:=h.bF.back List.nodup_range hb ay aD
 have r4:fM γ κ T S lo lo.tmps ds (fZ (c_ (List.range fr.length) r2) env) (back (List.range fr.length) fr r2) (fx (List.range fr.length) fr.length L L3) (X3.putObj (S+1) (.loop lo)):=
  ⟨b1,fun t=>b2.env (h.env t),fun x v hx=>b2.vr (h.cap x v hx),h.marks.tr h.bF b2,World.putObj_heap_same (Array.getElem?_eq_some_iff.1 I).1,(b2.same S (by omega) (h.bF.mark hS h.lS rfl)).2.trans h.lS⟩
 have ad:∀j v,κ.L j=some v->j <fr.length:=fun j v hj=>by
  obtain⟨lb,q1,_⟩:=h.bF.hand j v hj;exact aF q1
 have fin:∀(V:Out),V≠.normal->∃v w',(Instr.endRound (S+1) (some V.code)).run g.P X3=.ok v w'/\v=.bool false/\fM γ κ T S {lo with state:=.done,pending:=some V.code} lo.tmps ds (fZ (c_ (List.range fr.length) r2) env) (back (List.range fr.length) fr r2) (fx (List.range fr.length) fr.length L L3) w':=fun V _=>by
  refine⟨_,_,run_endRound (some V.code) I,rfl,?_⟩;have:=r4.put (lo':={lo with state:=.done,pending:=some V.code}) hS
  have e:(X3.putObj (S+1) (.loop lo)).putObj (S+1) (.loop {lo with state:=.done,pending:=some V.code})=X3.putObj (S+1) (.loop {lo with state:=.done,pending:=some V.code}):=by
   simp[World.putObj]
  rw[e]at this;exact this
 cases V with
 |normal=>
  simp only at hr;cases hr;have:=run_endRound (P:=g.P) none I;refine⟨_,_,this,.inl ⟨rfl,rfl,?_⟩⟩;have e:({{lo with state:=.busy}with state:=if(none:Option Code).isNone then .ready else .done,pending:=none}:Loop)=lo:=Loop.HZ h1 h2;rw[e];exact r4.head ad
 |exit id=>
  simp only at hr;cases hr;obtain⟨v,w',q1,rfl,q2⟩:=fin (.exit id) (by simp);exact⟨_,w',q1,.inr ⟨by simp,rfl,_,q2⟩⟩
 |ret=>
  simp only at hr;cases hr;obtain⟨v,w',q1,rfl,q2⟩:=fin .ret (by simp);exact⟨_,w',q1,.inr ⟨by simp,rfl,_,q2⟩⟩
def H1{g:Cfg}{n dn:Nat}{lv:Option (List Nat)}{Aa B:Env->Fr->Option (Out×Env×Fr)}{op:Operand}{ps:Array Tmp}{asg body:Code}{a:Act}{gf:Nat}{lb:Array Value}{yss:List (List AV)}{wh:Bool}{o:Out}{env':Env}{fr':Fr}
  (hA:∀env fr o env' fr',Aa env fr=some (o,env',fr')->∀κ l dn a w,At γ κ n env fr a w->asg.wpIn (Fw (some l)) dn g.P (lR γ κ n o env' fr') a w)
  (hB:∀env fr o env' fr',B env fr=some (o,env',fr')->∀κ l dn a w,At γ κ n env fr a w->body.wpIn (Fw (some l)) dn g.P (lR γ κ n o env' fr') a w)
  (ao:∀p∈ps.toList,p <n)(hg:a.eval op=.func (.func gf) #[] lb)(V:uA γ g.P gf lb T yss wh)(h:jN lv Aa B ps.toList wh yss env fr=some (o,env',fr'))
  (hfl:¬κ.H κ.W.heap.size)(hd:Marks κ w a.defers)(hn:a.tmps.size=n)(hC:av γ κ fr L w)(hV:∀t,SR (MA κ.M fr L) L w (env t) (a.tmps.getD t undef))(ad:∀x v,T x v->VR (MA κ.M fr L) w x v):
  (Code.rangeFunc op ps asg body).wpIn (Fw none) dn g.P (lR γ κ n o env' fr') a w:=by
 refine wpIn_rangeFunc fun fn _=>?_;obtain⟨hk,V⟩:=V;obtain⟨lo,u⟩:∃lo:Loop,lo={state:=.ready,pending:=none,fn,tmps:=a.tmps,params:=ps,assign:=asg,body,defers:=w.heap.size}:=⟨_,rfl⟩;have ab:κ.W.heap.size<=w.heap.size:=hC.size;have Z:lo.tmps=a.tmps:=by rw[u]
 have J:Below w.heap.size w ((w.alloc (.deferred (some []))).alloc (.loop lo)):=((Below.refl _ w).alloc (Nat.le_refl _) _).alloc (by simp) _
 have r1:fM γ κ T w.heap.size lo lo.tmps a.defers env fr L ((w.alloc (.deferred (some []))).alloc (.loop lo)):=by
  refine⟨hC.later J,fun t=>?_,fun x v hx=>(ad x v hx).later J,hd.below J,?_,?_⟩
  ·rw[Z];exact(hV t).later J
  ·have:=World.alloc_heap_new (w.alloc (.deferred (some []))) (.loop lo);rwa[World.size_alloc]at this
  ·exact(Below.heap_alloc _ _ _ (by simp)).trans (World.alloc_heap_new w _)
 have U:∀{G:Ls} {lo':Loop} {e:Env} {r:Fr} {Y:World},fM γ κ T w.heap.size lo' lo.tmps a.defers e r G Y->At γ κ n e r {a with defers:=[{target:=.collected w.heap.size,args:=#[]}]++a.defers} (Y.putObj (w.heap.size+1) (.loop {lo' with state:=.exhausted})):=fun{G lo' e r Y} hr=>by
  have h1:=hr.put (lo':={lo' with state:=.exhausted}) ab;refine⟨?_,hn,G,h1.bF,fun t=>?_⟩
  ·obtain⟨⟨Ds,n1,n2,n3⟩,_⟩:=h1.marks;obtain⟨⟨ak,m1,m2,m3⟩,_⟩:=hd
   have al:Ds=ak:=by
    have:=n2.symm.trans m2;exact List.map_inj_right (fun x y au=>by simpa using au)|>.1 this
   subst al;refine⟨⟨w.heap.size::Ds,List.nodup_cons.2 ⟨fun hm=>?_,n1⟩,?_,fun D hD=>?_⟩,fun hh=>absurd hh hfl⟩
   ·have:=(Array.getElem?_eq_some_iff.1 (m3 _ hm).2).1;omega
   ·show _::a.defers=_
    rw[n2];rfl
   ·rcases List.mem_cons.1 hD with rfl|hD
    ·exact⟨ab,h1.lS⟩
    ·exact n3 D hD
  ·have:=h1.env t;rw[Z]at this;exact this
 refine⟨w.heap.size+1,[{target:=.collected w.heap.size,args:=#[]}],(w.alloc (.deferred (some []))).alloc (.loop lo),{target:=.fn (.func gf) lb,args:=#[.func (.yield (w.heap.size+1)) #[] #[]]},(w.alloc (.deferred (some []))).alloc (.loop lo),gf,#[.func (.yield (w.heap.size+1)) #[] #[]]++lb,(w.alloc (.deferred (some []))).alloc (.loop lo),?_,?_,fun _ _=>trivial,?_,(fun hh=>by cases hh),?_⟩
 ·rw[u];exact run_enterLoop_outer _ _ _ _ _
 ·simp only[resolve,hg];simp[go_sem]
 ·simp[invoke,go_sem,xq hk]
 ·refine(V (w.heap.size+1) (fun q A X=>∃e r G,jN lv Aa B ps.toList wh q e r=some (o,env',fr')/\A=MA κ.M r G/\fM γ κ T w.heap.size lo lo.tmps a.defers e r G X)
   (fun X=>o≠.normal/\∃G,fM γ κ T w.heap.size {lo with state:=.done,pending:=some o.code} lo.tmps a.defers env' fr' G X) _ _ ?_ ?_ ?_ ?_ ?_ ⟨env,fr,L,h,rfl,r1⟩ (dn - 1)).mono ?_
  ·rintro q A X Y ⟨e,r,G,I,q2,z⟩ hb;exact⟨e,r,G,I,q2,z.below hb⟩
  ·rintro X Y ⟨I,G,z⟩ hb;exact⟨I,G,z.below hb⟩
  ·rintro q A X ⟨e,r,G,I,rfl,z⟩;exact⟨z.bF.pure _ fun b hb=>⟨z.bF.fresh b (Nat.le_trans z.bF.size hb),fun ho=>by have:=(z.bF.own ho).1;omega⟩,z.cap⟩
  ·rintro ap A X ⟨e,r,G,I,_⟩;subst ap;cases I
  ·rintro y q A us X ⟨e,r,G,I,rfl,z⟩ hus hv m;unfold jN at I
   have go:∀{o1:Out} {e1:Env} {f1:Fr},kD lv Aa B ps.toList y e r=some (o1,e1,f1)->YieldAt (Fw none) m g.P (w.heap.size+1) us X _:=fun{o1 e1 f1} hr=>
    H0 (lo:=lo) (asg:=asg) (body:=body) hA hB (by rw[u];exact ao) ab (by rw[u]) (by rw[u]) (by rw[u]) (by rw[u]) (by rw[u];exact hn) z (by rw[u];exact hr) hus hv m
   split at I
   ·rename_i e1 f1 hr;obtain⟨fn,tmps,ag,bd,y1,y2⟩:=go hr;refine⟨fn,tmps,ag,bd,y1,y2.mono ?_⟩;rintro en Y (⟨_,z1,L2,z2⟩|⟨z0,_⟩)
    ·exact .inl ⟨z1,_,_,_,_,I,rfl,z2⟩
    ·exact absurd rfl z0
   ·rename_i an;obtain⟨fn,tmps,ag,bd,y1,y2⟩:=go I;refine⟨fn,tmps,ag,bd,y1,y2.mono ?_⟩;rintro en Y (⟨z0,_⟩|⟨z0,z1,L2,z2⟩)
    ·subst z0;exact absurd I (an _ _)
    ·exact .inr ⟨z1,z0,L2,z2⟩
  ·rintro en Y ⟨⟨v,rfl⟩,⟨hwh,A',e,r,G,I,_,z⟩|⟨I,G,z⟩⟩
   ·subst hwh;cases I;have:=run_endLoop (P:=g.P) z.fN (by rw[u];simp);have hp:lo.pending=none:=by rw[u]
    refine⟨lo.pending,_,this,?_⟩;split
    ·exact⟨rfl,U z⟩
    ·rename_i hc;rw[hp]at hc;cases hc
   ·have:=run_endLoop (P:=g.P) z.fN (by simp);refine⟨some o.code,_,this,?_⟩
    cases o with
    |normal=>exact absurd rfl I
    |exit id=>exact wpIn_exit ⟨rfl,U z⟩
    |ret=>exact wpIn_ret ⟨rfl,U z⟩
end
section
variable {g:Cfg} {γ:Glob} {κ:Ctx} {C:CallF} {Lp:LoopF} {n:Nat}
def uD(al:g.P.follows .mixedOrders=true)(hS:fy g.P γ C)(hL:r5 g γ Lp)(hQ:∀(gf:Nat) (xs:List AV) (yss:List (List AV)) (wh:Bool),g.seq gf xs=some (yss,wh)->∀(lb:Array Value),lb.size=xs.length->uA γ g.P gf lb (uB xs lb) yss wh){f:Nat}:∀(c:Code) (env:Env) (fr:Fr) (o:Out) (env':Env) (fr':Fr),bu g f C Lp c env fr=some (o,env',fr')->db g f n c=true->∀(κ:Ctx) (rd:Option Nat) (dn:Nat) (a:Act) (w:World),((rd=none/\¬κ.H κ.W.heap.size)\/dz c=true)->At γ κ n env fr a w->c.wpIn (Fw rd) dn g.P (lR γ κ n o env' fr') a w:=by
 intro c
 induction c with
 |skip=>intro env fr o env' fr' h _ κ rd dn a w D I;unfold bu at h;cases h;exact wpIn_skip ⟨rfl,I⟩
 |exit id=>intro env fr o env' fr' h _ κ rd dn a w D I;unfold bu at h;cases h;exact wpIn_exit ⟨rfl,I⟩
 |ret=>intro env fr o env' fr' h _ κ rd dn a w D I;unfold bu at h;cases h;exact wpIn_ret ⟨rfl,I⟩
 |region id ops ap=>
  intro env fr o env' fr' h u κ rd dn a w D I;unfold bu at h;unfold db at u;rw[Bool.and_eq_true]at u;obtain⟨h1,h2,L,U,V⟩:=I;split at h
  ·rename_i e r z;cases h;unfold mA at z
   cases ap with
   |false=>
    simp only at z;split at z
    ·have:=Bj (rd:=rd) (dn:=dn) hS (ops:=ops) (n:=n) (κ:=κ) (Q:=lR γ κ n .normal env' fr') (env':=env') (fr':=fr') u.1 (fun L a w hd hn U V=>⟨rfl,hd,hn,L,U,V⟩) ops.toList 0 env fr L a w (fun o ho=>ho) z h1 h2 U V;exact wpIn_region_lit (l:=ops.toList) (by simpa using this)
    ·rename_i k _ _;unfold rF at z;split at z
     ·cases z
     ·rename_i e1 r1 ay;split at z
      ·cases z
      ·rename_i o l hl;split at z
       ·cases z
       ·rename_i hg;split at z
        ·cases z
        ·rename_i x r2 hB;have ak:∀o'∈o::l,o'∈ops.toList:=fun o' ab=>List.mem_of_mem_drop (by rw[hl];exact ab)
         have aA:=Hm (rd:=rd) (dn:=dn) hS (ops:=ops) (n:=n) (κ:=κ) (Q:=lR γ κ n .normal env' fr') (env':=e1) (fr':=r1) (l2:=o::l) u.1 (fun L a w hd hn U V=>by
          unfold wpListIn;rw[if_pos (by simp[Region.wanted,hg])];refine(G5 hB κ L a w U (fun y _=>mj V y)).wpIn fun v w' ⟨L',hT,aD,hv⟩=>?_;refine Bj (rd:=rd) (dn:=dn) hS (ops:=ops) (n:=n) (κ:=κ) (Q:=lR γ κ n .normal env' fr') (env':=env') (fr':=fr') u.1 (fun L a w hd hn U V=>⟨rfl,hd,hn,L,U,V⟩) l (k+1) _ _ L' _ _ (fun o' ab=>ak o' (by simp[ab])) z (by rw[put_defers];exact hd.tr U hT) (by rw[bQ,hn]) aD ?_;exact kG (fun t=>hT.env (V t)) hv fun q hq=>by rw[hn];exact lO u.1 (ak o (by simp)) hq) (ops.toList.take k) 0 env fr L a w (fun o' ab=>List.mem_of_mem_take ab) ay h1 h2 U V
         rw[<- hl,List.take_append_drop]at aA;exact wpIn_region_lit (l:=ops.toList) (by simpa using aA)
   |true=>
    match hm:pV (g.eff f id)with
    |0=>
     have G:=u.2;simp only[hm]at z G;obtain⟨E,F,a1,a2,a3,a4,a5⟩:=Bm ops.toList 0 env fr z
     have hE:Steps g C ops (g.eff f id) E F:=fun i o ho=>by
      have:=a3 i o (by rw[Array.getElem?_toList];exact ho);rwa[Nat.zero_add]at this
     rw[Array.length_toList]at a4 a5;refine wpIn_region_any al (Hs (n:=n) (κ:=κ) (E:=E) (F:=F) hS (Ho G) u.1 hE (fun L a w hd hn U V=>⟨rfl,hd,hn,L,by rw[<- a5];exact U,by rw[<- a5,<- a4];exact V⟩) _ 0 L _ a _ ?_ (ir.start h1 h2 ?_ fun t=>?_))
     ·unfold fL;exact Nat.le_trans (List.countP_le_length) (by simp)
     ·rw[a2];exact U.later (Below.drew (Below.refl _ _))
     ·rw[a1,a2];exact(V t).later (Below.drew (Below.refl _ _))
    |1=>
     have G:=u.2;simp only[hm]at z G;obtain⟨E,F,a1,a2,a3,a4,a5⟩:=xE ops.toList 0 env fr z
     have hE:jg g C ops (g.eff f id) E F:=fun i o ho=>by
      have:=a3 i o (by rw[Array.getElem?_toList];exact ho);rwa[Nat.zero_add]at this
     rw[Array.length_toList]at a4 a5;refine wpIn_region_any al (HH (n:=n) (κ:=κ) (E:=E) (F:=F) hS (Hp G) u.1 hE (fun L a w hd hn U V=>⟨rfl,hd,hn,L,by rw[<- a5];exact U,by rw[<- a5,<- a4];exact V⟩) _ 0 L _ a _ ?_ (kH.start h1 h2 ?_ fun t=>?_))
     ·unfold fL;exact Nat.le_trans (List.countP_le_length) (by simp)
     ·rw[a2];exact U.later (Below.drew (Below.refl _ _))
     ·rw[a1,a2];exact(V t).later (Below.drew (Below.refl _ _))
    |3=>simp only[hm]at z;cases z
    |4=>
     have G:=u.2;simp only[hm]at z G;refine wpIn_region_any al (HR (n:=n) (κ:=κ) (L:=L) hS G u.1 z (fun L a w hd hn U V=>⟨rfl,hd,hn,L,U,V⟩) h1 h2 (U.later (Below.drew (Below.refl _ _))) fun t=>(V t).later (Below.drew (Below.refl _ _)))
    |2=>simp only[hm]at z;cases z
    |5=>simp only[hm]at z;cases z
    |n+6=>simp only[hm]at z;cases z
  ·cases h
 |seq x y ag ao=>
  intro env fr o env' fr' h u κ rd dn a w D I;unfold bu at h;unfold db at u;rw[Bool.and_eq_true]at u;have Z:(rd=none/\¬κ.H κ.W.heap.size)\/dz x=true:=D.imp (fun q=>q) fun q=>by unfold dz at q;rw[Bool.and_eq_true]at q;exact q.1
  have ad:(rd=none/\¬κ.H κ.W.heap.size)\/dz y=true:=D.imp (fun q=>q) fun q=>by unfold dz at q;rw[Bool.and_eq_true]at q;exact q.2
  split at h
  ·rename_i e r hx;refine wpIn_seq (wpIn_mono (ag _ _ _ _ _ hx u.1 κ rd dn a w Z I) fun ex a' w' ⟨z,J⟩=>?_);subst z;exact ao _ _ _ _ _ h u.2 κ rd dn a' w' ad J
  ·rename_i an;refine wpIn_seq (wpIn_mono (ag _ _ _ _ _ h u.1 κ rd dn a w Z I) fun ex a' w' ⟨z,J⟩=>?_);subst z
   cases o with
   |normal=>exact absurd h (an _ _)
   |exit id=>exact⟨rfl,J⟩
   |ret=>exact⟨rfl,J⟩
 |cond c x y ag ao=>
  intro env fr o env' fr' h u κ rd dn a w D I;unfold bu at h;unfold db at u;rw[Bool.and_eq_true]at u;have J:=I;have Z:(rd=none/\¬κ.H κ.W.heap.size)\/dz x=true:=D.imp (fun q=>q) fun q=>by unfold dz at q;rw[Bool.and_eq_true]at q;exact q.1
  have ad:(rd=none/\¬κ.H κ.W.heap.size)\/dz y=true:=D.imp (fun q=>q) fun q=>by unfold dz at q;rw[Bool.and_eq_true]at q;exact q.2
  obtain⟨_,_,L,U,V⟩:=J;have hc:=b_ (mj V c);split at h
  ·rename_i hr;rw[hr]at hc;exact wpIn_cond_split (jK hc) (fun _=>ag _ _ _ _ _ h u.1 κ rd dn a w Z I) (fun e=>by cases e)
  ·rename_i hr;rw[hr]at hc;exact wpIn_cond_split (jK hc) (fun e=>by cases e) (fun _=>ao _ _ _ _ _ h u.2 κ rd dn a w ad I)
  ·cases h
 |block id b ih=>
  intro env fr o env' fr' h u κ rd dn a w D I;unfold bu at h;unfold db at u;split at h
  ·rename_i i e r hx;refine wpIn_block (wpIn_mono (ih _ _ _ _ _ hx u κ rd dn a w (D.imp (fun q=>q) fun q=>by unfold dz at q;exact q) I) fun ex a' w' ⟨z,J⟩=>?_);subst z;simp only[Out.uC,Exit.inBlock];split at h
   ·rename_i hi;cases h;rw[if_pos (by simpa using hi)];exact⟨rfl,J⟩
   ·rename_i hi;cases h;rw[if_neg (by intro e;subst e;simp at hi)];exact⟨rfl,J⟩
  ·rename_i an;refine wpIn_block (wpIn_mono (ih _ _ _ _ _ h u κ rd dn a w (D.imp (fun q=>q) fun q=>by unfold dz at q;exact q) I) fun ex a' w' ⟨z,J⟩=>?_);subst z
   cases o with
   |normal=>exact⟨rfl,J⟩
   |exit i=>exact absurd h (an _ _ _)
   |ret=>exact⟨rfl,J⟩
 |loop b ih=>
  intro env fr o env' fr' h u κ rd dn a w D I;unfold bu at h;unfold db at u;have h1:=At.own (env:=env) (fr:=fr) (g.own f (c6 b)) env fr I;exact hL _ _ _ _ _ _ _ h n u κ rd dn a w (D.imp (fun q=>q) fun q=>by unfold dz at q;exact q) (h1.head h1.handed)
 |rangeFunc op ps asg body bc bd=>
  intro env fr o env' fr' h u κ rd dn a w D I;obtain⟨rfl,a6⟩:rd=none/\¬κ.H κ.W.heap.size:=D.resolve_right (by unfold dz;simp);unfold bu at h;unfold db at u;rw[Bool.and_eq_true,Bool.and_eq_true,Bool.and_eq_true,Bool.and_eq_true]at u;obtain⟨⟨⟨⟨w1,w2⟩,w3⟩,w4⟩,w5⟩:=u;split at h
  ·rename_i gf bs aw;split at h
   ·cases h
   ·rename_i cs aS;split at h
    ·cases h
    ·rename_i yss wh bb;obtain⟨d1,d2,L,U,V⟩:=I;obtain⟨fs,lb,hv,aI,aL,be,aR⟩:=Bf aw (b_ (mj V op));obtain⟨aE,au,aH⟩:=U.mC (bo fr bs);obtain⟨p1,p2⟩:=oB U aH _ _ aS (nz U);have a_:fs=#[]:=Array.eq_empty_of_size_eq_zero (by rw[<- aI];rfl);subst a_;refine H1 (fun env fr o env' fr' h κ l dn a w I=>bc _ _ _ _ _ h w1 κ (some l) dn a w (.inr w3) I) (fun env fr o env' fr' h κ l dn a w I=>bd _ _ _ _ _ h w2 κ (some l) dn a w (.inr w4) I) (fun p hp=>by simpa[Nat.blt_eq]using List.all_eq_true.1 w5 p hp) hv (hQ _ _ _ _ bb lb (by rw[<- aL,p1])) (T:=uB cs lb) h a6 (d1.tr U au) d2 aE (fun t=>au.sr (V t)) fun x v ⟨j,hx,hu⟩=>?_;obtain⟨s,hs⟩:=am (xs:=bs) (k:=j) (by rw[p1];exact aF hx);exact p2 j s x v hs hx (aR j s v hs hu)
  ·cases h
 |_=>intro env fr o env' fr' h;unfold bu at h;cases h
def H2{P:Program}{A:Nat->Prop}{L:Ls}{w:World}{fr:Fr}{t:Nat}{s x:SV}{v:Value}(h:fv P fr t s=some x)(hs:SR A L w s v):∃a,v=.pointer (some a):=by
 unfold fv at h;split at h
 ·cases h
 ·split at h
  ·obtain⟨b,o,u,rfl,_⟩:=pN hs;exact⟨_,rfl⟩
  ·obtain⟨b,_,rfl⟩:=j_ hs;exact⟨_,rfl⟩
  ·obtain⟨b,m,c,_,rfl⟩:=oo hs;exact⟨_,rfl⟩
  ·obtain⟨_,b,m,c,_,_,rfl⟩:=tC hs;exact⟨_,rfl⟩
  ·cases h
def xU(tmps:Array Value):ResultVar->Sem Value
 | .tmp t=>pure (tmps.getD t undef)
 | .cell a t=>do loadVar t (<- asAddr (tmps.getD a undef))
def H3(fn:Func)(tmps:Array Value):results fn tmps=(do let vs <- fn.results.mapM (xU tmps);pure (if h:vs.size=1 then vs[0]else .tuple vs)):=by
 unfold results;congr 2
def H4{P:Program}{γ:Glob}{κ:Ctx}{fr:Fr}{L:Ls}{w:World}{env:Env}{tmps:Array Value}(G:av γ κ fr L w)(y:∀t,SR (MA κ.M fr L) L w (env t) (tmps.getD t undef)){r:ResultVar}{q:Nat×Option Nat}{x:SV}(hq:fw [r]=[q])(hx:AQ P env fr q=some x):∃v,(xU tmps r).run P w=.ok v w/\SR (MA κ.M fr L) L w x v:=by
 cases r with
 |tmp t=>unfold fw fw at hq;cases hq;cases hx;exact⟨_,rfl,y t⟩
 |cell a T=>
  unfold fw fw at hq;cases hq;have hx:fv P fr T (un (env a))=some x:=hx;have z:=ol (y a);obtain⟨I,D⟩:=H2 hx z;obtain⟨u,h1,h2⟩:=rp G hx z;refine⟨u,?_,h2⟩;rw[D]at h1;show((asAddr (tmps.getD a undef))>>=fun d=>loadVar T d).run P w=_
  rw[D];simpa[Instr.loadAt,Instr.sureAddr,asAddr,Sem.run_bind]using h1
def xV{P:Program}{γ:Glob}{κ:Ctx}{fr:Fr}{L:Ls}{w:World}{env:Env}{fn:Func}{tmps:Array Value}{x:SV}(hC:av γ κ fr L w)(hV:∀t,SR (MA κ.M fr L) L w (env t) (tmps.getD t undef))(h:nv P env fr (fw fn.results.toList)=some x)(ak:fn.results.size<=4):
  ∃v,(results fn tmps).run P w=.ok v w/\SR (MA κ.M fr L) L w x v:=by
 have ab:∀(l:List ResultVar) (xs:List SV),rG P env fr (fw l)=some xs->∃I:List Value,I.length=l.length/\xs.length=l.length/\∀(j:Nat) (r:ResultVar) (x:SV) (v:Value),l[j]?=some r->xs[j]?=some x->I[j]?=some v->(xU tmps r).run P w=.ok v w/\SR (MA κ.M fr L) L w x v:=fun l=>by
  induction l with
  |nil=>intro xs h;unfold fw rG at h;cases h;exact⟨[],rfl,rfl,fun j r x v U=>by simp at U⟩
  |cons r l ih=>
   intro xs h;have hc:∃q,fw [r]=[q]/\fw (r::l)=q::fw l:=by cases r <;>exact⟨_,rfl,rfl⟩
   obtain⟨q,hq,hc⟩:=hc;rw[hc]at h;unfold rG at h;split at h
   ·cases h
   ·rename_i x0 al;split at h
    ·cases h
    ·rename_i ap ao;cases h;obtain⟨G,e1,e2⟩:=H4 hC hV hq al;obtain⟨I,V,Z,D⟩:=ih _ ao;refine⟨G::I,by simp[V],by simp[Z],fun j r' x v U y z=>?_⟩
     cases j with
     |zero=>cases U;cases y;cases z;exact⟨e1,e2⟩
     |succ j=>exact D j r' x v U y z
 unfold nv at h;have ag:fn.results.toList.length<=4:=by simpa using ak
 have ad:fn.results=fn.results.toList.toArray:=by simp
 rw[H3];generalize fn.results.toList=l at*
 rw[ad];have aL:∀(xs:List SV) (I:List Value),I.length=xs.length->(∀(j:Nat) (x:SV) (v:Value),xs[j]?=some x->I[j]?=some v->SR (MA κ.M fr L) L w x v)->SR (MA κ.M fr L) L w (.aL xs) (.tuple I.toArray):=fun xs I hl U=>.aL _ _ (by simpa using hl) fun j x u y hu=>U j x u y (by simpa using hu);split at h
 ·cases h
 ·rename_i x0 y;cases h;obtain⟨I,V,Z,D⟩:=ab l _ y
  match l,I,V,Z,D with
  |[r],[v],_,_,D=>
   obtain⟨g1,g2⟩:=D 0 r x v rfl rfl rfl;exact⟨v,by simp[Sem.run_bind,g1],g2⟩
 ·rename_i xs an y;cases h;obtain⟨I,V,Z,D⟩:=ab l _ y
  match l,I,xs,V,Z,D,ag with
  |[],[],[],_,_,_,_=>exact⟨.tuple #[],by simp[Sem.run_bind],aL [] [] rfl fun j x v y=>by simp at y⟩
  |[r],[v],[x],_,_,D,_=>exact absurd rfl (an x)
  |[r0,r1],[G,v1],[x0,x1],_,_,D,_=>
   have a0:=D 0 r0 x0 G rfl rfl rfl;have J:=D 1 r1 x1 v1 rfl rfl rfl
   exact⟨.tuple #[G,v1],by simp[Sem.run_bind,a0.1,J.1],aL [x0,x1] [G,v1] rfl fun j x v y z=>by
    match j,y,z with
    |0,y,z=>cases y;cases z;exact a0.2
    |1,y,z=>cases y;cases z;exact J.2⟩
  |[r0,r1,r2],[G,v1,v2],[x0,x1,x2],_,_,D,_=>
   have a0:=D 0 r0 x0 G rfl rfl rfl;have J:=D 1 r1 x1 v1 rfl rfl rfl;have a2:=D 2 r2 x2 v2 rfl rfl rfl
   exact⟨.tuple #[G,v1,v2],by simp[Sem.run_bind,a0.1,J.1,a2.1],aL [x0,x1,x2] [G,v1,v2] rfl fun j x v y z=>by
    match j,y,z with
    |0,y,z=>cases y;cases z;exact a0.2
    |1,y,z=>cases y;cases z;exact J.2
    |2,y,z=>cases y;cases z;exact a2.2⟩
  |[r0,r1,r2,r3],[G,v1,v2,v3],[x0,x1,x2,x3],_,_,D,_=>
   have a0:=D 0 r0 x0 G rfl rfl rfl;have J:=D 1 r1 x1 v1 rfl rfl rfl;have a2:=D 2 r2 x2 v2 rfl rfl rfl;have a3:=D 3 r3 x3 v3 rfl rfl rfl
   exact⟨.tuple #[G,v1,v2,v3],by simp[Sem.run_bind,a0.1,J.1,a2.1,a3.1],aL [x0,x1,x2,x3] [G,v1,v2,v3] rfl fun j x v y z=>by
    match j,y,z with
    |0,y,z=>cases y;cases z;exact a0.2
    |1,y,z=>cases y;cases z;exact J.2
    |2,y,z=>cases y;cases z;exact a2.2
    |3,y,z=>cases y;cases z;exact a3.2⟩
def H5{z:Fr}{L:Ls}{w:World}{r:SV}{x:AV}{v:Value}(y:av γ κ z L w)(I:∀(j:Nat) (v:Value),κ.L j=some v->False)(hx:ib z deep r=some x)(hr:SR (MA κ.M z L) L w r v):∃L',av γ κ [] L' w/\SR (MA κ.M [] L') L' w (.t x) v:=by
 have U:∀b,κ.M b->MA κ.M [] (fun _=>none) b:=fun b D=>⟨D,fun⟨i,v,Z,h,_⟩=>by cases h⟩;refine⟨fun _=>none,?_,.t _ _ ((mD y (A:=MA κ.M [] (fun _=>none)) (fun b D=>U b D.1) deep).1 r x v hx (fun i _ u b V J=>?_) hr)⟩
 ·exact{
   glob:=y.glob
   gn:=y.gn
   gx:=y.gx
   fresh:=y.fresh
   os:=y.os
   tape:=y.tape
   output:=y.output
   size:=y.size
   kept:=y.kept
   lim:=fun i v h=>by cases h
   new:=fun i v b Z h=>by cases h
   dis:=fun i j v v' b h=>by cases h
   hand:=fun j v h=>(I j v h).elim
   blk:=fun i Z h=>by cases h}
 ·have G:=y.lim i u V;exact U b (y.new i u b z[i] V J (List.getElem?_eq_getElem G)).2.1
def H6{b:Bool}{m:Nat}{o:Option (SV×Fr)}{r:SV}{fr':Fr}(h:oz b m o=some (r,fr')):o=some (r,fr')\/(m=0/\fr'=[]/\∃v u x,o=some (v,u)/\ib u deep v=some x/\r=.t x):=by
 unfold oz at h;split at h
 ·exact .inl h
 ·split at h
  ·cases h
  ·rename_i v u;split at h
   ·split at h
    ·rename_i x y;cases h;exact .inr ⟨rfl,rfl,v,u,x,rfl,y,rfl⟩
    ·exact .inl h
   ·exact .inl h
def av.H7{fr:Fr}{L:Ls}{w:World}(h:av γ κ fr L w):av γ ⟨κ.M,κ.X,fun b=>κ.H b/\b <κ.W.heap.size,κ.W,κ.L⟩ fr L w where
 glob:=h.glob
 gn:=h.gn
 gx:=h.gx
 fresh:=h.fresh
 os:=h.os
 tape:=h.tape
 output:=h.output
 size:=h.size
 kept:=h.kept
 lim:=h.lim
 new:=fun i v b y h1 h2 h3=>by
  obtain⟨z,D,G,I⟩:=h.new i v b y h1 h2 h3;refine⟨z,D,?_,I⟩;rcases Nat.lt_or_ge b κ.W.heap.size with u|u
  ·exact G.imp (fun q=>q) fun q=>⟨q,u⟩
  ·exact .inl u
 dis:=h.dis
 hand:=h.hand
 blk:=h.blk
def av.H8{fr:Fr}{L:Ls}{w:World}(h:av γ ⟨κ.M,κ.X,fun b=>κ.H b/\b <κ.W.heap.size,κ.W,κ.L⟩ fr L w):av γ κ fr L w where
 glob:=h.glob
 gn:=h.gn
 gx:=h.gx
 fresh:=h.fresh
 os:=h.os
 tape:=h.tape
 output:=h.output
 size:=h.size
 kept:=h.kept
 lim:=h.lim
 new:=fun i v b u h1 h2 h3=>by
  obtain⟨y,z,D,G⟩:=h.new i v b u h1 h2 h3;exact⟨y,z,D.imp (fun q=>q) fun q=>q.1,G⟩
 dis:=h.dis
 hand:=h.hand
 blk:=h.blk
def H9{P:Program}{f:Nat}{args:List SV}{fr:Fr}{r:SV}{fr':Fr}(h:∀(κ:Ctx) (w:World) (us:Array Value),¬κ.H κ.W.heap.size->av γ κ fr κ.L w->κ.W=w->us.size=args.length->(∀(j:Nat) (x:SV) (u:Value),args[j]?=some x->us[j]?=some u->SR (MA κ.M fr κ.L) κ.L w x u)->
  Calls P f us w fun e w'=>∃v L',e=.returned v/\av γ κ fr' L' w'/\SR (MA κ.M fr' L') L' w' r v):∀(κ:Ctx) (w:World) (us:Array Value),av γ κ fr κ.L w->κ.W=w->us.size=args.length->(∀(j:Nat) (x:SV) (u:Value),args[j]?=some x->us[j]?=some u->SR (MA κ.M fr κ.L) κ.L w x u)->
  Calls P f us w fun e w'=>∃v L',e=.returned v/\av γ κ fr' L' w'/\SR (MA κ.M fr' L') L' w' r v:=fun κ w us z G y D=>
 (h ⟨κ.M,κ.X,fun b=>κ.H b/\b <κ.W.heap.size,κ.W,κ.L⟩ w us (fun h=>absurd h.2 (Nat.lt_irrefl _)) z.H7 G y D).mono fun _ _ ⟨v,L',h1,h2,h3⟩=>⟨v,L',h1,h2.H8,h3⟩
def H_(hW:Wf g γ){m:Nat}(hS:fy g.P γ (cQ g m))(hL:r5 g γ (dy g m)):fy g.P γ (cQ g (m+1)):=fun f z fr r fr' h=>by
 unfold cQ at h;split at h
 ·-- a contract
  split at h
  ·rename_i xs ap;obtain⟨hk,hc⟩:=hW.ext f xs r fr' h;refine⟨hk,fun κ w J hC hw I hr=>?_⟩;obtain⟨p1,p2⟩:=ot (A:=MA κ.M [] κ.L) (L:=κ.L) (w:=w) ap
   exact hc κ w J hC hw (by rw[I,p1]) fun j x u hx hu=>by
    obtain⟨s,hs⟩:=am (xs:=z) (k:=j) (by rw[p1];exact aF hx);exact p2 j s x u hs hx (hr j s u hs hu)
  ·exact hW.exh _ _ _ _ _ h
 ·rename_i an;split at h
  ·cases h
  ·rename_i fn U;split at h
   ·rename_i c hb;have G:=hW.rZ f an;unfold oI at G;rw[U]at G;simp only[hb]at G;rw[Bool.and_eq_true,Bool.and_eq_true,Bool.not_eq_true',Nat.ble_eq]at G;obtain⟨⟨ao,al⟩,ad⟩:=G;split at h
    ·cases h
    ·rename_i ag;rw[Nat.ble_eq]at ag;refine⟨⟨fn,U,al,by rw[hb];rfl⟩,H9 fun κ w J ak hC hw I hr=>callsIn_wide.1 (callsIn_of_wp_marks (F:=Fence.wide) (n:=0) U hb trivial ?_)⟩
     have hA:At γ κ fn.ntmps (jO z) fr {tmps:=J++Array.replicate (fn.ntmps - J.size) undef,defers:=[]} w:=by
      refine⟨Marks.nil,by simp[I];omega,κ.L,hC,fun t=>?_⟩;show SR _ _ w (jO z t) _
      unfold jO
      cases hx:z[t]? with
      |none=>exact .dead _
      |some x=>
       have ht:t <J.size:=by rw[I];exact aF hx
       have h1:=hr t x J[t] hx (Array.getElem?_eq_getElem ht);show SR _ _ w x ((J++_).getD t undef)
       rw[Array.getD_eq_getD_getElem?,Array.getElem?_append_left ht,Array.getElem?_eq_getElem ht];exact h1
     have done:∀{o:Out} {e:Env} {q:Fr},bu g f (cQ g m) (dy g m) c (jO z) fr=some (o,e,q)->(o=.normal\/o=.ret)->oz (g.tre f) fr.length (mB fr.length (nv g.P e q (fw fn.results.toList)) q)=some (r,fr')->Code.wpIn Fence.wide 0 g.P c (bodyPostM Fence.wide 0 g.P fn fun e w'=>∃v L',e=.returned v/\av γ κ fr' L' w'/\SR (MA κ.M fr' L') L' w' r v) {tmps:=J++Array.replicate (fn.ntmps - J.size) undef,defers:=[]} w:=fun{o e q} D ho ab=>by
      refine wpIn_mono (uD hW.mixed hS hL hW.seq c _ _ _ _ _ D ao κ none 0 _ w (.inl ⟨rfl,ak⟩) hA) fun ex a w' ⟨he,⟨⟨Ds,n1,n2,n3⟩,_⟩,h3,L,h4,h5⟩=>?_
      have au:LeavesInM Fence.wide 0 g.P fn a.tmps (fun e w'=>∃v L',e=.returned v/\av γ κ fr' L' w'/\SR (MA κ.M fr' L') L' w' r v) a.defers .returning w':=by
       rw[n2];refine xr Ds w' n1 n3 fun ay hq=>?_;rcases H6 ab with y|⟨aw,rfl,r1,ex,x,y,htx,rfl⟩
       ·unfold mB at y;split at y
        ·rename_i r0 V;obtain⟨v,hv,Z⟩:=xV (h4.lq hq) (fun t=>(h5 t).lq hq) V ad;obtain⟨L',f1,f2⟩:=xT (h4.lq hq) (fun j u hj=>hC.lim j u hj) y Z;exact⟨v,hv,v,L',rfl,f1,f2⟩
        ·cases y
       ·unfold mB at y;split at y
        ·rename_i r0 V;obtain⟨v,hv,Z⟩:=xV (h4.lq hq) (fun t=>(h5 t).lq hq) V ad;obtain⟨L',f1,f2⟩:=xT (h4.lq hq) (fun j u hj=>hC.lim j u hj) y Z;obtain⟨L2,f3,f4⟩:=H5 f1 (fun j u hj=>by have:=hC.lim j u hj;omega) htx f2;exact⟨v,hv,v,L2,rfl,f3,f4⟩
        ·cases y
      rcases ho with rfl|rfl <;>(subst he;exact au)
     split at h
     ·rename_i e q D;exact done D (.inl rfl) h
     ·rename_i e q D;exact done D (.inr rfl) h
     ·cases h
   ·cases h
def uE{F:Fence}{dn:Nat}{P:Program}{Q:Exit->Act->World->Prop}{a:Act}{w:World}{c:Code}(I:Nat->Act->World->Prop)(G:Nat)(U:I G a w)
  (round:∀n a w,I n a w->c.wpIn F dn P (Exit.then (fun z w'=>∃y,y <n/\I y z w') Q) a w):(Code.loop c).wpIn F dn P Q a w:=by
 refine wpIn_loop (fun a w=>∃n,I n a w) (fun a w=>leastOf (fun n=>I n a w)) ⟨G,U⟩ ?_;intro a w J;refine wpIn_mono (round _ a w (leastOf_spec J).1) ?_;intro e z w' v
 cases e with
 |normal=>
  obtain⟨y,D,u⟩:=v;exact show(∃n,I n z w')/\leastOf (fun n=>I n z w')<leastOf (fun n=>I n a w) from⟨⟨y,u⟩,Nat.lt_of_le_of_lt ((leastOf_spec ⟨y,u⟩).2 y u) D⟩
 |exit Z=>exact v
 |goto l=>exact v
 |ret=>exact v
 |panic V=>exact v
 |outgrown=>exact v
def Ia(hW:Wf g γ){m:Nat}(V:∀k,k <m->fy g.P γ (cQ g k))(U:∀k,k <m->r5 g γ (dy g k)):r5 g γ (dy g m):=fun f b env fr o v fr' h n D κ rd dn a w z y=>by
 refine uE (fun k a w=>k<=m/\∃env fr,dy g k f b env fr=some (o,v,fr')/\At γ κ n env fr a w) m ⟨Nat.le_refl _,env,fr,h,y⟩ fun k a w ⟨hk,env,fr,h,y⟩=>?_
 cases k with
 |zero=>unfold dy at h;cases h
 |succ k=>
  unfold dy at h;split at h
  ·rename_i e r I;refine wpIn_mono (uD hW.mixed (V k (by omega)) (U k (by omega)) hW.seq b _ _ _ _ _ I D κ rd dn a w z y) fun ex Z w' ⟨G,u⟩=>?_;subst G;exact⟨k,Nat.lt_succ_self k,by omega,_,_,h,u.head y.handed⟩
  ·rename_i J;refine wpIn_mono (uD hW.mixed (V k (by omega)) (U k (by omega)) hW.seq b _ _ _ _ _ h D κ rd dn a w z y) fun ex Z w' ⟨G,u⟩=>?_;subst G
   cases o with
   |normal=>exact absurd h (J _ _)
   |exit id=>exact⟨rfl,u⟩
   |ret=>exact⟨rfl,u⟩
def sound(hW:Wf g γ):∀m,fy g.P γ (cQ g m)/\r5 g γ (dy g m):=fun m=>by
 induction m using Nat.strongRecOn with
 |_ m ih=>
  have y:=Ia hW (fun k u=>(ih k u).1) (fun k u=>(ih k u).2)
  cases m with
  |zero=>exact⟨(fun f v fr r fr' h=>by unfold cQ at h;cases h),y⟩
  |succ m=>exact⟨H_ hW (ih m (Nat.lt_succ_self m)).1 (ih m (Nat.lt_succ_self m)).2,y⟩
end
def Ib{P:Program}{o:Oper}{c:Operand}{args:Array Operand}{tys:Array TypeId}{a:Act}{w:World}{l m:Nat}{R:Ending->World->Prop}{K:Act->World->Prop}{Q:Exit->Act->World->Prop}
  (ho:o.op=.call ⟨.value c,args,tys⟩)(hc:a.eval c=.func (.yield l) #[] #[])(hy:∀m,YieldAt (Fw none) m P l (args.map a.eval) w R)(z:∀e w',R e w'->∃v,e=.returned v/\K (a.put o.dst v) w'):o.wpIn (Fw none) m P a w K Q:=by
 refine⟨fun _ _=>trivial,?_⟩;obtain⟨fn,u,asg,body,h1,h2⟩:=hy (m - 1)
 have e:(o.semAt (Fw none).round a.eval).run P w=.ok (.round l fn u asg body) w:=by
  show(o.semAt none a.eval).run P w=_
  simp[Oper.semAt,execOp,ho,resolve,Deferred.ofValue,hc,invoke,Sem.run_bind,pure,Sem.run,callFunc,h1]
 rw[e];refine⟨(fun h=>by cases h),h2.mono ?_⟩;intro y w' G;obtain⟨v,rfl,D⟩:=z y w' G;exact D
def kJ(C C':CallF):Prop:=∀f u fr x,C f u fr=some x->C' f u fr=some x
def xW(Lp Lp':LoopF):Prop:=∀f b env fr x,Lp f b env fr=some x->Lp' f b env fr=some x
section
variable {g:Cfg} {C C':CallF} {Lp Lp':LoopF}
def Ic(h:kJ C C'){G:Bool}{fr:Fr}{f:Nat}{args:List SV}{x:dQ}(hx:il g C G fr f args=some x):il g C' G fr f args=some x:=by
 unfold il at hx⊢;split at hx
 ·cases hx
 ·rename_i xs D
  try simp only[D]
  split at hx
  ·rename_i z
   try simp only[z]
   split at hx
   ·cases hx
   ·rename_i r I v;rw[h _ _ _ _ v];exact hx
  ·rename_i J U z
   try simp only[z]
   split at hx
   ·cases hx
   ·simp only at hx⊢;split at hx
    ·cases hx
    ·rename_i bs u
     try simp only[u]
     split at hx
     ·cases hx
     ·rename_i y
      try simp only[y]
      split at hx
      ·cases hx
      ·rename_i r fr' v;rw[h _ _ _ _ v];exact hx
def BN(h:kJ C C'){u:Bool}{env:Env}{fr:Fr}{op:Op}{x:dQ}(hx:bU g C u env fr op=some x):bU g C' u env fr op=some x:=by
 unfold bU at hx⊢;split at hx <;>first|exact hx|skip
 ·unfold my at hx⊢;split at hx
  ·cases hx
  ·rename_i v
   try simp only[v]
   exact Ic h hx
def mI(h:kJ C C'){d:Option (List Nat)}{i:Nat}{env:Env}{fr:Fr}{op:Op}{x:dQ}(hx:step g C d i env fr op=some x):step g C' d i env fr op=some x:=by
 have u:∀{x},cr g C env fr op=some x->cr g C' env fr op=some x:=fun{x} hx=>by
  unfold cr at hx⊢;split at hx
  ·exact BN h hx
  ·exact hx
 have v:∀{x},io g C env fr op=some x->io g C' env fr op=some x:=fun{x} hx=>by
  unfold io at hx⊢;split at hx
  ·exact BN h hx
  ·exact hx
 unfold step at hx⊢;split at hx
 ·exact u hx
 ·split at hx
  ·exact u hx
  ·exact v hx
theorem lT(h:kJ C C'){d:Option (List Nat)}{ops:Array Oper}{x:Env×Fr}:∀(l:List Oper) (i:Nat) (env:Env) (fr:Fr),dH g C d ops i l env fr=some x->dH g C' d ops i l env fr=some x
 |[],_,_,_,u=>u
 |o::l,i,env,fr,u=>by
  unfold dH at u⊢;split at u
  ·split at u
   ·rename_i v;rw[mI h v];exact lT h l _ _ _ u
   ·cases u
  ·split at u
   ·cases u
   ·rename_i y
    try simp only[y]
    split at u
    ·rename_i v;rw[mI h v];exact lT h l _ _ _ u
    ·cases u
   ·rename_i y
    try simp only[y]
    exact lT h l _ _ _ u
theorem oJ(h:kJ C C'){effs:List Nat}{ops:Array Oper}{x:Env×Fr}:∀(l:List Oper) (i:Nat) (env:Env) (fr:Fr),gI g C effs ops i l env fr=some x->gI g C' effs ops i l env fr=some x
 |[],_,_,_,u=>u
 |o::l,i,env,fr,u=>by
  unfold gI at u⊢;split at u
  ·cases u
  ·rename_i z
   try simp only[z]
   split at u
   ·split at u
    ·rename_i v;rw[mI h v];exact oJ h l _ _ _ u
    ·cases u
   ·split at u
    ·cases u
    ·rename_i y
     try simp only[y]
     split at u
     ·rename_i v;rw[mI h v];exact oJ h l _ _ _ u
     ·cases u
    ·rename_i y
     try simp only[y]
     exact oJ h l _ _ _ u
def Ie(h:kJ C C'){k:Nat}{ops:Array Oper}{env:Env}{fr:Fr}{x:Env×Fr}(hx:rF g C k ops env fr=some x):rF g C' k ops env fr=some x:=by
 unfold rF at hx⊢;split at hx
 ·cases hx
 ·rename_i z
  try simp only[lT h _ _ _ _ z]
  split at hx
  ·cases hx
  ·rename_i y
   try simp only[y]
   split at hx
   ·cases hx
   ·rename_i v
    try simp only[v]
    split at hx
    ·cases hx
    ·rename_i u
     try simp only[u]
     exact lT h _ _ _ _ hx
def Ig(h:kJ C C'){effs:List Nat}{ops:Array Oper}{env:Env}{fr:Fr}{x:Env×Fr}(hx:oy g C effs ops env fr=some x):oy g C' effs ops env fr=some x:=by
 unfold oy at hx⊢;split at hx
 ·cases hx
 ·split at hx
  ·cases hx
  ·rename_i u;simp only[oJ h _ _ _ _ u];exact hx
def Ih(h:kJ C C'){f y:Nat}{ops:Array Oper}{u:Bool}{env:Env}{fr:Fr}{x:Env×Fr}(hx:mA g f C y ops u env fr=some x):mA g f C' y ops u env fr=some x:=by
 unfold mA at hx⊢
 cases u with
 |false=>
  simp only at hx⊢;split at hx
  ·rename_i v
   try simp only[v]
   exact lT h _ _ _ _ hx
  ·rename_i v
   try simp only[v]
   exact Ie h hx
 |true=>
  simp only at hx⊢;split at hx
  ·rename_i v
   try simp only[v]
   exact lT h _ _ _ _ hx
  ·rename_i v
   try simp only[v]
   exact oJ h _ _ _ _ hx
  ·rename_i v
   try simp only[v]
   exact Ig h hx
  ·cases hx
def xX{lv:Option (List Nat)}{A B A' u:Env->Fr->Option (Out×Env×Fr)}(z:∀e r x,A e r=some x->A' e r=some x)(D:∀e r x,B e r=some x->u e r=some x){v:List Nat}{y:List AV}{env:Env}{fr:Fr}{x:Out×Env×Fr}(h:kD lv A B v y env fr=some x):kD lv A' u v y env fr=some x:=by
 unfold kD at h⊢;split at h
 ·cases h
 rename_i h1
 try simp only[h1]
 split at h
 ·cases h
 rename_i h2
 try simp only[h2]
 split at h
 ·rename_i h3;rw[z _ _ _ h3];simp only;split at h
  ·cases h
  ·rename_i h4;rw[D _ _ _ h4];exact h
 ·cases h
theorem xY{lv:Option (List Nat)}{A B A' D:Env->Fr->Option (Out×Env×Fr)}(u:∀e r x,A e r=some x->A' e r=some x)(v:∀e r x,B e r=some x->D e r=some x){G:List Nat}{wh:Bool}:∀(yss:List (List AV)) (env:Env) (fr:Fr) (x:Out×Env×Fr),jN lv A B G wh yss env fr=some x->jN lv A' D G wh yss env fr=some x
 |[],env,fr,x,h=>h
 |y::I,env,fr,x,h=>by
  unfold jN at h⊢;split at h
  ·rename_i h1;rw[xX u v h1];exact xY u v I _ _ _ h
  ·rename_i z;rw[xX u v h];obtain⟨o,e,r⟩:=x
   cases o with
   |normal=>exact absurd h (z _ _)
   |exit J=>rfl
   |ret=>rfl
def jh(h:kJ C C')(J:xW Lp Lp'){f:Nat}:∀(c:Code) (env:Env) (fr:Fr) (x:Out×Env×Fr),bu g f C Lp c env fr=some x->bu g f C' Lp' c env fr=some x:=by
 intro c
 induction c with
 |region D ops I=>
  intro env fr x u;unfold bu at u⊢;split at u
  ·rename_i e r Z;rw[Ih h Z];exact u
  ·cases u
 |seq a b v y=>
  intro env fr x u;unfold bu at u⊢;split at u
  ·rename_i e r U;rw[v _ _ _ U];exact y _ _ _ u
  ·rename_i z;rw[v _ _ _ u];obtain⟨o,e,r⟩:=x
   cases o with
   |normal=>exact absurd u (z _ _)
   |exit D=>rfl
   |ret=>rfl
 |cond c a b v y=>
  intro env fr x u;unfold bu at u⊢;split at u
  ·exact v _ _ _ u
  ·exact y _ _ _ u
  ·cases u
 |block D b G=>
  intro env fr x u;unfold bu at u⊢;split at u
  ·rename_i i e r V;rw[G _ _ _ V];exact u
  ·rename_i z;rw[G _ _ _ u];obtain⟨o,e,r⟩:=x
   cases o with
   |normal=>rfl
   |exit D=>exact absurd u (z _ _ _)
   |ret=>rfl
 |loop b G=>intro env fr x u;unfold bu at u⊢;exact J _ _ _ _ _ u
 |rangeFunc op ps asg body v y=>
  intro env fr x u;unfold bu at u⊢;split at u
  ·rename_i h1
   try simp only[h1]
   split at u
   ·cases u
   ·rename_i h2
    try simp only[h2]
    split at u
    ·cases u
    ·rename_i h3
     try simp only[h3]
     exact xY (fun e r x q=>v e r x q) (fun e r x q=>y e r x q) _ _ _ _ u
  ·cases u
 |_=>intro env fr x u;unfold bu at u⊢;exact u
theorem xZ:∀n,kJ (cQ g n) (cQ g (n+1))/\xW (dy g n) (dy g (n+1))
 |0=>⟨(fun f v fr x h=>by unfold cQ at h;cases h),(fun f b env fr x h=>by unfold dy at h;cases h)⟩
 |n+1=>by
  obtain⟨h1,h2⟩:=xZ n;refine⟨fun f v fr x h=>?_,fun f b env fr x h=>?_⟩
  ·unfold cQ at h⊢;split at h
   ·exact h
   ·split at h
    ·cases h
    ·rename_i z
     try simp only[z]
     split at h
     ·rename_i G
      try simp only[G]
      split at h
      ·cases h
      ·rename_i y
       try simp only[y]
       split at h
       ·rename_i u;rw[jh h1 h2 _ _ _ _ u];exact h
       ·rename_i u;rw[jh h1 h2 _ _ _ _ u];exact h
       ·cases h
     ·cases h
  ·unfold dy at h⊢;split at h
   ·rename_i u;rw[jh h1 h2 _ _ _ _ u];exact h2 _ _ _ _ _ h
   ·rename_i D;rw[jh h1 h2 _ _ _ _ h];obtain⟨o,e,r⟩:=x
    cases o with
    |normal=>exact absurd h (D _ _)
    |exit I=>rfl
    |ret=>rfl
def fA{n m:Nat}(h:n<=m):kJ (cQ g n) (cQ g m):=by
 induction m with
 |zero=>
   obtain rfl:n=0:=by omega
   exact fun _ _ _ _ h=>h
 |succ m y=>
  rcases Nat.lt_or_ge m n with h1|h1
  ·obtain rfl:n=m+1:=by omega
   exact fun _ _ _ _ h=>h
  ·exact fun f u fr x v=>(xZ m).1 _ _ _ _ (y h1 _ _ _ _ v)
def lU{n m:Nat}(h:n<=m):xW (dy g n) (dy g m):=by
 induction m with
 |zero=>
   obtain rfl:n=0:=by omega
   exact fun _ _ _ _ _ h=>h
 |succ m v=>
  rcases Nat.lt_or_ge m n with h1|h1
  ·obtain rfl:n=m+1:=by omega
   exact fun _ _ _ _ _ h=>h
  ·exact fun f b env fr x u=>(xZ m).2 _ _ _ _ _ (v h1 _ _ _ _ _ u)
end
def Cl(g:Cfg)(f:Nat)(args:List SV)(fr:Fr)(r:SV)(fr':Fr):Prop:=∃n,cQ g n f args fr=some (r,fr')
def ac(g:Cfg)(f:Nat)(c:Code)(env:Env)(fr:Fr)(K:Out->Env->Fr->Prop):Prop:=∃n o e r,bu g f (cQ g n) (dy g n) c env fr=some (o,e,r)/\K o e r
def aC(g:Cfg)(f:Nat)(b:Code)(env:Env)(fr:Fr)(K:Out->Env->Fr->Prop):Prop:=∃n o e r,dy g n f b env fr=some (o,e,r)/\K o e r
def aa(g:Cfg)(d:Option (List Nat))(ops:Array Oper)(i:Nat)(l:List Oper)(env:Env)(fr:Fr)(K:Env->Fr->Prop):Prop:=∃n e r,dH g (cQ g n) d ops i l env fr=some (e,r)/\K e r
def aB(g:Cfg)(effs:List Nat)(ops:Array Oper)(i:Nat)(l:List Oper)(env:Env)(fr:Fr)(K:Env->Fr->Prop):Prop:=∃n e r,gI g (cQ g n) effs ops i l env fr=some (e,r)/\K e r
def ae(g:Cfg)(d:Option (List Nat))(i:Nat)(env:Env)(fr:Fr)(op:Op)(x:SV)(fr':Fr)(ks:List Nat):Prop:=∃n,step g (cQ g n) d i env fr op=some (x,fr',ks)
def kK(P:Env->Fr->Prop)(K:Out->Env->Fr->Prop):Out->Env->Fr->Prop
 | .normal,e,r=>P e r
 |o,e,r=>K o e r
def lV(u:Nat)(K:Out->Env->Fr->Prop):Out->Env->Fr->Prop
 | .exit i,e,r=>match Nat.beq i u with
  |true=>K .normal e r
  |false=>K (.exit i) e r
 |o,e,r=>K o e r
section
variable {g:Cfg} {f:Nat} {env:Env} {fr:Fr} {K:Out->Env->Fr->Prop}
def ac.post{c:Code}{K':Out->Env->Fr->Prop}(h:ac g f c env fr K)(u:∀o e r,K o e r->K' o e r):ac g f c env fr K':=by
 obtain⟨n,o,e,r,h1,h2⟩:=h;exact⟨n,o,e,r,h1,u _ _ _ h2⟩
theorem ac.skip(h:K .normal env fr):ac g f .skip env fr K:=⟨0,.normal,env,fr,by unfold bu;rfl,h⟩
theorem ac.exit{u:Nat}(h:K (.exit u) env fr):ac g f (.exit u) env fr K:=⟨0,.exit u,env,fr,by unfold bu;rfl,h⟩
theorem ac.ret(h:K .ret env fr):ac g f .ret env fr K:=⟨0,.ret,env,fr,by unfold bu;rfl,h⟩
theorem ac.seq{a b:Code}(h:ac g f a env fr (kK (fun e r=>ac g f b e r K) K)):ac g f (.seq a b) env fr K:=by
 obtain⟨n,o,e,r,h1,h2⟩:=h
 cases o with
 |normal=>
  obtain⟨m,o,u,v,h3,h4⟩:=h2;refine⟨max n m,o,u,v,?_,h4⟩;unfold bu;rw[jh (fA (Nat.le_max_left n m)) (lU (Nat.le_max_left n m)) _ _ _ _ h1];exact jh (fA (Nat.le_max_right n m)) (lU (Nat.le_max_right n m)) _ _ _ _ h3
 |exit y=>exact⟨n,_,e,r,by unfold bu;rw[h1],h2⟩
 |ret=>exact⟨n,_,e,r,by unfold bu;rw[h1],h2⟩
theorem ac.cond{c:Operand}{a b:Code}{t:Bool}(hc:rd env c=.t (.bool t))(ha:t=true->ac g f a env fr K)(hb:t=false->ac g f b env fr K):ac g f (.cond c a b) env fr K:=by
 cases t with
 |true=>obtain⟨n,o,e,r,h1,h2⟩:=ha rfl;exact⟨n,o,e,r,by unfold bu;rw[hc];exact h1,h2⟩
 |false=>obtain⟨n,o,e,r,h1,h2⟩:=hb rfl;exact⟨n,o,e,r,by unfold bu;rw[hc];exact h1,h2⟩
theorem ac.block{v:Nat}{b:Code}(h:ac g f b env fr (lV v K)):ac g f (.block v b) env fr K:=by
 obtain⟨n,o,e,r,h1,h2⟩:=h
 cases o with
 |normal=>exact⟨n,_,e,r,by unfold bu;rw[h1],h2⟩
 |ret=>exact⟨n,_,e,r,by unfold bu;rw[h1],h2⟩
 |exit i=>
  unfold lV at h2;simp only at h2;split at h2
  ·rename_i u;exact⟨n,.normal,e,r,by unfold bu;rw[h1];simp only[u],h2⟩
  ·rename_i u;exact⟨n,.exit i,e,r,by unfold bu;rw[h1];simp only[u],h2⟩
def ac.text{u:Nat}{l:List Oper}(hm:g.eff f u=[])(h:aa g none l.toArray 0 l env fr fun e r=>K .normal e r):ac g f (.region u l.toArray false) env fr K:=by
 obtain⟨n,e,r,h1,h2⟩:=h;exact⟨n,.normal,e,r,by unfold bu mA;simp only[hm];rw[h1],h2⟩
def ac.drawn{u:Nat}{l:List Oper}(hm:pV (g.eff f u)=0)(h:aa g (some (g.eff f u)) l.toArray 0 l env fr fun e r=>K .normal e r):ac g f (.region u l.toArray true) env fr K:=by
 obtain⟨n,e,r,h1,h2⟩:=h;exact⟨n,.normal,e,r,by unfold bu mA;simp only[hm];rw[h1],h2⟩
def ac.nE{u:Nat}{l:List Oper}(hm:pV (g.eff f u)=1)(h:aB g (g.eff f u) l.toArray 0 l env fr fun e r=>K .normal e r):ac g f (.region u l.toArray true) env fr K:=by
 obtain⟨n,e,r,h1,h2⟩:=h;exact⟨n,.normal,e,r,by unfold bu mA;simp only[hm];rw[h1],h2⟩
def ac.oK{u:Nat}{l:List Oper}{N:Nat}{r:List Nat}(hm:pV (g.eff f u)=4)(he:wT (g.eff f u)=N::r)(h:aB g (N::r) l.toArray 0 l env fr fun e r=>ox fr.length (wV (l.take N)) e r=true/\K .normal e r):ac g f (.region u l.toArray true) env fr K:=by
 obtain⟨n,e,r,h1,h2,h3⟩:=h;refine⟨n,.normal,e,r,?_,h3⟩;unfold bu mA;simp only[hm,he];unfold oy;simp only[h1,h2]
theorem ac.loop{b:Code}{p:Env×Fr}(hp:f_ (g.own f (c6 b)) env fr=p){q:Env×Fr}(hq:head (g.lv f (c6 b)) p.2.length p.1 p.2=q)(h:aC g f b q.1 q.2 K):ac g f (.loop b) env fr K:=by
 subst hp hq;obtain⟨n,o,e,r,h1,h2⟩:=h;exact⟨n,o,e,r,by unfold bu;exact h1,h2⟩
def aC.step{b:Code}(h:ac g f b env fr (kK (fun e r=>aC g f b (head (g.lv f (c6 b)) fr.length e r).1 (head (g.lv f (c6 b)) fr.length e r).2 K) K)):aC g f b env fr K:=by
 obtain⟨n,o,e,r,h1,h2⟩:=h
 cases o with
 |normal=>
  obtain⟨m,o,u,v,h3,h4⟩:=h2;refine⟨max n m+1,o,u,v,?_,h4⟩;unfold dy;rw[jh (fA (Nat.le_max_left n m)) (lU (Nat.le_max_left n m)) _ _ _ _ h1];exact lU (Nat.le_max_right n m) _ _ _ _ _ h3
 |exit y=>exact⟨n+1,_,e,r,by unfold dy;rw[h1],h2⟩
 |ret=>exact⟨n+1,_,e,r,by unfold dy;rw[h1],h2⟩
def Cl.ao{args:List SV}{r:SV}{fr':Fr}{fn:Func}{c:Code}{y:List (Nat×Option Nat)}(hok:g.ok f=true)(hf:g.P.funcs[f]?=some fn)(hb:fn.body=some c)(v:fw fn.results.toList=y)(u:Nat.ble args.length fn.ntmps=true)
  (h:ac g f c (jO args) fr fun o e q=>(o=.normal\/o=.ret)/\mB fr.length (nv g.P e q y) q=some (r,fr'))(ht:g.tre f=false:=by rfl):Cl g f args fr r fr':=by
 subst v;obtain⟨n,o,e,q,h1,h2,h3⟩:=h;refine⟨n+1,?_⟩;unfold cQ;simp only[hok,hf,hb,u,h1,ht,oz];rcases h2 with rfl|rfl <;>exact h3
def Cl.fO{args:List SV}{fn:Func}{c:Code}{y:List (Nat×Option Nat)}{x:AV}(hok:g.ok f=true)(hf:g.P.funcs[f]?=some fn)(hb:fn.body=some c)(v:fw fn.results.toList=y)(u:Nat.ble args.length fn.ntmps=true)
  (h:ac g f c (jO args) [] fun o e q=>(o=.normal\/o=.ret)/\oz true 0 (mB 0 (nv g.P e q y) q)=some (.t x,[]))(ht:g.tre f=true:=by rfl):Cl g f args [] (.t x) []:=by
 subst v;obtain⟨n,o,e,q,h1,h2,h3⟩:=h;refine⟨n+1,?_⟩;unfold cQ;simp only[hok,hf,hb,u,h1,ht,List.length_nil];rcases h2 with rfl|rfl <;>exact h3
variable {d:Option (List Nat)} {ops:Array Oper} {i:Nat} {K':Env->Fr->Prop}
def aa.nil(h:K' env fr):aa g d ops i [] env fr K':=⟨0,env,fr,rfl,h⟩
def aa.u{l:List Oper}{dst:Option Tmp}{op:Op}{ty:TypeId}{pos:String}{after:Array Edge}{x:SV}{fr':Fr}{ks:List Nat}(hx:ae g d i env fr op x fr' ks)(h:aa g d ops (i+1) l (aK (fZ ks env) dst x) fr' K'):aa g d ops i (⟨dst,op,ty,pos,after,none⟩::l) env fr K':=by
 obtain⟨n,h1⟩:=hx;obtain⟨m,e,r,h2,h3⟩:=h;refine⟨max n m,e,r,?_,h3⟩;unfold dH;simp only;rw[mI (fA (Nat.le_max_left n m)) h1];exact lT (fA (Nat.le_max_right n m)) _ _ _ _ h2
def aa.gd{l:List Oper}{dst:Option Tmp}{op:Op}{ty:TypeId}{pos:String}{after:Array Edge}{j:Nat}{u W:Bool}{x:SV}(hW:cX ops env j u=some W)(hx:W=true->ae g d i env fr op x fr [])(h:aa g d ops (i+1) l (aK env dst (q8 W x)) fr K'):aa g d ops i (⟨dst,op,ty,pos,after,some (j,u)⟩::l) env fr K':=by
 obtain⟨m,e,r,h2,h3⟩:=h
 cases W with
 |false=>
  refine⟨m,e,r,?_,h3⟩;unfold dH;simp only[hW];exact h2
 |true=>
  obtain⟨n,h1⟩:=hx rfl;refine⟨max n m,e,r,?_,h3⟩;unfold dH;simp only[hW];rw[mI (fA (Nat.le_max_left n m)) h1];exact lT (fA (Nat.le_max_right n m)) _ _ _ _ h2
def aa.gt{l:List Oper}{dst:Option Tmp}{op:Op}{ty:TypeId}{pos:String}{after:Array Edge}{j:Nat}{u:Bool}{x:SV}{fr':Fr}{ks:List Nat}(hW:cX ops env j u=some true)(hx:ae g d i env fr op x fr' ks)(h:aa g d ops (i+1) l (aK (fZ ks env) dst (.aS x)) fr' K'):aa g d ops i (⟨dst,op,ty,pos,after,some (j,u)⟩::l) env fr K':=by
 obtain⟨m,e,r,h2,h3⟩:=h;obtain⟨n,h1⟩:=hx;refine⟨max n m,e,r,?_,h3⟩;unfold dH;simp only[hW];rw[mI (fA (Nat.le_max_left n m)) h1];exact lT (fA (Nat.le_max_right n m)) _ _ _ _ h2
def aa.gf{l:List Oper}{dst:Option Tmp}{op:Op}{ty:TypeId}{pos:String}{after:Array Edge}{j:Nat}{u:Bool}(hW:cX ops env j u=some false)(h:aa g d ops (i+1) l (aK env dst .no) fr K'):aa g d ops i (⟨dst,op,ty,pos,after,some (j,u)⟩::l) env fr K':=by
 obtain⟨m,e,r,h2,h3⟩:=h;refine⟨m,e,r,?_,h3⟩;unfold dH;simp only[hW];exact h2
variable {effs:List Nat}
def aB.nil(h:K' env fr):aB g effs ops i [] env fr K':=⟨0,env,fr,rfl,h⟩
def aB.u{l:List Oper}{dst:Option Tmp}{op:Op}{ty:TypeId}{pos:String}{after:Array Edge}{x:SV}{fr':Fr}(hfl:rE effs ops env i=true)(hx:ae g (some effs) i env fr op x fr' [])(h:aB g effs ops (i+1) l (aK env dst x) fr' K'):aB g effs ops i (⟨dst,op,ty,pos,after,none⟩::l) env fr K':=by
 obtain⟨n,h1⟩:=hx;obtain⟨m,e,r,h2,h3⟩:=h;refine⟨max n m,e,r,?_,h3⟩;unfold gI;simp only[hfl];rw[mI (fA (Nat.le_max_left n m)) h1];exact oJ (fA (Nat.le_max_right n m)) _ _ _ _ h2
def aB.gt{l:List Oper}{dst:Option Tmp}{op:Op}{ty:TypeId}{pos:String}{after:Array Edge}{j:Nat}{u:Bool}{x:SV}{fr':Fr}(hfl:rE effs ops env i=true)(hW:cX ops env j u=some true)(hx:ae g (some effs) i env fr op x fr' [])(h:aB g effs ops (i+1) l (aK env dst (.aS x)) fr' K'):aB g effs ops i (⟨dst,op,ty,pos,after,some (j,u)⟩::l) env fr K':=by
 obtain⟨n,h1⟩:=hx;obtain⟨m,e,r,h2,h3⟩:=h;refine⟨max n m,e,r,?_,h3⟩;unfold gI;simp only[hfl,hW];rw[mI (fA (Nat.le_max_left n m)) h1];exact oJ (fA (Nat.le_max_right n m)) _ _ _ _ h2
def aB.gf{l:List Oper}{dst:Option Tmp}{op:Op}{ty:TypeId}{pos:String}{after:Array Edge}{j:Nat}{u:Bool}(hfl:rE effs ops env i=true)(hW:cX ops env j u=some false)(h:aB g effs ops (i+1) l (aK env dst .no) fr K'):aB g effs ops i (⟨dst,op,ty,pos,after,some (j,u)⟩::l) env fr K':=by
 obtain⟨m,e,r,h2,h3⟩:=h;refine⟨m,e,r,?_,h3⟩;unfold gI;simp only[hfl,hW];exact h2
def ae.r{op:Op}{x:SV}{fr':Fr}{ks:List Nat}(h:∀C,step g C d i env fr op=some (x,fr',ks)):ae g d i env fr op x fr' ks:=⟨0,h _⟩
end
end Go.Proofs.YtjolgbkkocjpgaaGreatDoor
