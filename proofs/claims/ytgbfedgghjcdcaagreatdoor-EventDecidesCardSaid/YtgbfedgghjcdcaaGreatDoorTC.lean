/- The tree evaluator,18: regions that draw their order. No condition. -/
import Derived.Test.YtgbfedgghjcdcaaGreatDoorTB
import Derived.RangeFuncSeq
set_option linter.all false
namespace Go.Proofs.YtgbfedgghjcdcaaGreatDoor
open Go.RowKit
def lG(g:Cfg)(C:CallF)(d:Option (List Nat))(ops:Array Oper)(i:Nat)(o:Oper)(E:Env)(F:Fr)(E':Env)(v:Fr):Prop:=
 match o.guard with
 |none=>∃x ks,step g C d i E F o.op=some (x,v,ks)/\E'=aD (cF ks E) o.dst x
 |some (j,u)=>(db ops E j u=some true/\∃x ks,step g C d i E F o.op=some (x,v,ks)/\E'=aD (cF ks E) o.dst (.aN x))\/(db ops E j u=some false/\v=F/\E'=aD E o.dst .no)
theorem yU{g:Cfg}{C:CallF}{d:Option (List Nat)}{ops:Array Oper}{env':Env}{fr':Fr}:∀(l:List Oper) (n:Nat) (env:Env) (fr:Fr),cH g C d ops n l env fr=some (env',fr')->
  ∃(E:Nat->Env) (F:Nat->Fr),E 0=env/\F 0=fr/\(∀i o,l[i]?=some o->lG g C d ops (n+i) o (E i) (F i) (E (i+1)) (F (i+1)))/\E l.length=env'/\F l.length=fr'
 |[],n,env,fr,h=>by
  unfold cH at h;cases h;exact⟨fun _=>env',fun _=>fr',rfl,rfl,fun i o Z=>by simp at Z,rfl,rfl⟩
 |o::l,n,env,fr,h=>by
  have:∃z u,lG g C d ops n o env fr z u/\cH g C d ops (n+1) l z u=some (env',fr'):=by
   unfold cH at h;unfold lG;split at h
   ·rename_i G;rw[G];split at h
    ·rename_i x u ks v;exact⟨_,u,⟨x,ks,v,rfl⟩,h⟩
    ·cases h
   ·rename_i j I G;rw[G];split at h
    ·cases h
    ·rename_i D;split at h
     ·rename_i x u ks v;exact⟨_,u,.inl ⟨D,x,ks,v,rfl⟩,h⟩
     ·cases h
    ·rename_i D;exact⟨_,_,.inr ⟨D,rfl,rfl⟩,h⟩
  obtain⟨z,u,h1,h2⟩:=this;obtain⟨E,F,J,O,Q,U,V⟩:=yU l (n+1) z u h2;refine⟨fun i=>match i with|0=>env|i+1=>E i,fun i=>match i with|0=>fr|i+1=>F i,rfl,rfl,fun i o' y=>?_,U,V⟩
  cases i with
  |zero=>cases y;show lG g C d ops (n+0) _ env fr (E 0) (F 0);rw[J,O];exact h1
  |succ i=>
   have:=Q i o' (by simpa using y);rw[Nat.add_assoc,Nat.add_comm 1 i]at this;exact this
def B6{g:Cfg}{C:CallF}{fr:Fr}{f:Nat}{args:List SV}{x:SV}{fr':Fr}{ks:List Nat}(h:fu g C true fr f args=some (x,fr',ks)):fr'=fr/\ks=[]:=by
 unfold fu at h;split at h
 ·cases h
 ·split at h
  ·split at h
   ·cases h
   ·split at h
    ·cases h;exact⟨rfl,rfl⟩
    ·simp only at h;split at h
     ·split at h
      ·cases h;exact⟨rfl,rfl⟩
      ·split at h
       ·cases h;exact⟨rfl,rfl⟩
       ·cases h
     ·cases h
  ·cases h
def qA{g:Cfg}{C:CallF}{env:Env}{fr:Fr}{op:Op}{x:SV}{fr':Fr}{ks:List Nat}(h:eX g C env fr op=some (x,fr',ks)):fr'=fr/\ks=[]:=by
 unfold eX at h;split at h
 ·rename_i u;unfold jE at u;split at u
  ·unfold bu pq at h;simp only at h;split at h
   ·cases h;exact⟨rfl,rfl⟩
   ·cases h
  ·rename_i c v y;unfold bu at h;simp only at h;unfold jY at h;split at h
   ·cases h
   ·exact B6 h
  ·cases u
 ·obtain⟨_,rfl,rfl⟩:=pW h;exact⟨rfl,rfl⟩
section
variable {g:Cfg} {γ:Glob} {κ:Ctx} {C:CallF} {ops:Array Oper} {effs:List Nat} {n:Nat} {E:Nat->Env} {F:Nat->Fr}
structure fj (γ:Glob) (κ:Ctx) (ops:Array Oper) (effs:List Nat) (n:Nat) (E:Nat->Env) (F:Nat->Fr) (b:Nat) (L:Ls) (listed:Array Bool) (a:Act) (w:World):Prop where
 hd:Marks κ w a.defers
 hn:a.tmps.size=n
 hs:listed.size=ops.size
 hb:b<=ops.size
 low:∀k,k <b->listed.getD k true=true
 n7:∀k,b<=k->k <ops.size->listed.getD k true=true->∀e∈effs,b<=e->k <e
 core:ar γ κ (F b) L w
 done:∀(k:Nat) (o:Oper) (t:Nat),ops[k]?=some o->b<=k->o.dst=some t->listed.getD k true=true->SR (MA κ.M (F b) L) L w (E (k+1) t) (a.tmps.getD t undef)
 rest:∀(t:Nat),(∀(k:Nat) (o:Oper),ops[k]?=some o->b<=k->o.dst=some t->listed.getD k true=false)->SR (MA κ.M (F b) L) L w (E b t) (a.tmps.getD t undef)
 cu:∀(k:Nat) (o:Oper),ops[k]?=some o->listed.getD k true=true->∀e∈o.after,Region.binds .any e=true->listed.getD e.on false=true
abbrev Steps(g:Cfg)(C:CallF)(ops:Array Oper)(effs:List Nat)(E:Nat->Env)(F:Nat->Fr):Prop:=∀(i:Nat) (o:Oper),ops[i]?=some o->lG g C (some effs) ops i o (E i) (F i) (E (i+1)) (F (i+1))
def Steps.uQ(y:Steps g C ops effs E F){i:Nat}{o:Oper}(ho:ops[i]?=some o)(hi:i∉effs):F (i+1)=F i/\∀t,o.dst≠some t->E (i+1) t=E i t:=by
 have h:=y i o ho
 have v:∀{x ks},step g C (some effs) i (E i) (F i) o.op=some (x,F (i+1),ks)->F (i+1)=F i/\ks=[]:=fun{x ks} h=>by
  unfold step at h;simp only[dJ.2 hi]at h;exact qA h
 unfold lG at h;split at h
 ·obtain⟨x,ks,h1,h2⟩:=h;obtain⟨h3,rfl⟩:=v h1;exact⟨h3,fun t u=>by rw[h2,iG u];rfl⟩
 ·rcases h with⟨_,x,ks,h1,h2⟩|⟨_,h1,h2⟩
  ·obtain⟨h3,rfl⟩:=v h1;exact⟨h3,fun t u=>by rw[h2,iG u];rfl⟩
  ·exact⟨h1,fun t u=>by rw[h2,iG u]⟩
theorem sS(u:Steps g C ops effs E F){b:Nat}:∀i,b<=i->i<=ops.size->(∀m,b<=m->m <i->m∉effs)->F i=F b
 |0,h,_,_=>by
   obtain rfl:b=0:=by omega
   rfl
 |i+1,h,y,v=>by
  rcases Nat.lt_or_ge i b with h1|h1
  ·obtain rfl:b=i+1:=by omega
   rfl
  ·rw[(u.uQ (Array.getElem?_eq_getElem (by omega)) (v i h1 (by omega))).1];exact sS u i h1 (by omega) fun m h2 h3=>v m h2 (by omega)
theorem sQ(v:Steps g C ops effs E F)(t b:Nat):∀i,b<=i->i<=ops.size->(∀m,b<=m->m <i->m∉effs)->(∀(k:Nat) (o:Oper),b<=k->k <i->ops[k]?=some o->o.dst≠some t)->E i t=E b t
 |0,h,_,_,_=>by
   obtain rfl:b=0:=by omega
   rfl
 |i+1,h,G,z,y=>by
  rcases Nat.lt_or_ge i b with h1|h1
  ·obtain rfl:b=i+1:=by omega
   rfl
  ·rw[(v.uQ (Array.getElem?_eq_getElem (by omega)) (z i h1 (by omega))).2 t (y i _ h1 (by omega) (Array.getElem?_eq_getElem (by omega)))];exact sQ v t b i h1 (by omega) (fun m h2 h3=>z m h2 (by omega)) fun k o u D=>y k o u (by omega)
variable {b:Nat} {L:Ls} {listed:Array Bool} {a:Act} {w:World}
def fj.start(hd:Marks κ w a.defers)(hn:a.tmps.size=n)(z:ar γ κ (F 0) L w)(D:∀t,SR (MA κ.M (F 0) L) L w (E 0 t) (a.tmps.getD t undef)):fj γ κ ops effs n E F 0 L (Array.replicate ops.size false) a w where
 hd:=hd
 hn:=hn
 hs:=by simp
 hb:=Nat.zero_le _
 low:=fun k v=>by omega
 n7:=fun k _ v u=>by
  rw[Array.getD_eq_getD_getElem?,Array.getElem?_replicate,if_pos v]at u;cases u
 core:=z
 done:=fun k o t y _ _ u=>by
  have v:=(Array.getElem?_eq_some_iff.1 y).1;rw[Array.getD_eq_getD_getElem?,Array.getElem?_replicate,if_pos v]at u;cases u
 rest:=fun t _=>D t
 cu:=fun k o y u=>by
  have v:=(Array.getElem?_eq_some_iff.1 y).1;rw[Array.getD_eq_getD_getElem?,Array.getElem?_replicate,if_pos v]at u;cases u
def fj.slot(hok:ox ops effs)(Q:Steps g C ops effs E F)(h:fj γ κ ops effs n E F b L listed a w)
  {i:Nat}{t:Nat}(I:b<=i)(hi:i<=ops.size)(hm:∀m,b<=m->m <i->m∉effs)(h1:∀(k:Nat) (ok:Oper),ops[k]?=some ok->b<=k->ok.dst=some t->listed.getD k true=true->k <i)(h2:∀(k:Nat) (ok:Oper),ops[k]?=some ok->b<=k->ok.dst=some t->listed.getD k true=false->i<=k):SR (MA κ.M (F b) L) L w (E i t) (a.tmps.getD t undef):=by
 by_cases z:∃(k:Nat) (ok:Oper),ops[k]?=some ok/\b<=k/\ok.dst=some t/\listed.getD k true=true
 ·obtain⟨k,ok,y,u,v,G⟩:=z;have J:=h1 k ok y u v G;rw[sQ Q t (k+1) i (by omega) hi (fun m h2 h3=>hm m (by omega) h3) fun m om U V O=>hok.dst m om k ok t O y (by omega) v];exact h.done k ok t y u v G
 ·have D:∀(k:Nat) (o:Oper),ops[k]?=some o->b<=k->o.dst=some t->listed.getD k true=false:=fun k o y u v=>by
   rw[<- Bool.not_eq_true];exact fun G=>z ⟨k,o,y,u,v,G⟩
  rw[sQ Q t b i I hi hm fun k o u J y v=>by have:=h2 k o y u v (D k o y u v);omega];exact h.rest t D
def fj.gw(h:fj γ κ ops effs n E F b L listed a w){i k:Nat}(ha:eE ops i k):(∀(o:Oper),ops[i]?=some o->∀e∈o.after,Region.binds .any e=true->listed.getD e.on false=true)->listed.getD k true=true:=by
 induction ha with
 |one i o e z v u=>intro y;exact fz (y o z e v u)
 |more i k o e z v u ha G=>
  intro y;have h1:=fz (y o z e v u);exact G fun I D=>h.cu e.on I D h1
def Bl(hok:ox ops effs){listed:Array Bool}(hs:listed.size=ops.size)(hr:Region.ready .any ops listed=[]):∀k,k <ops.size->listed.getD k true=true:=by
 intro k
 induction k using Nat.strongRecOn with
 |_ k ih=>
  intro v;rw[<- Bool.not_eq_false];intro G
  have y:k∈Region.ready .any ops listed:=mem_ready.2 ⟨G,ops[k],Array.getElem?_eq_getElem v,fun e D z=>by
   have u:=hok.back k _ (Array.getElem?_eq_getElem v) e D z;exact xx (by rw[hs];omega) (ih e.on u (by omega))⟩
  rw[hr]at y;cases y
theorem fj.put(hok:ox ops effs)(h:fj γ κ ops effs n E F b L listed a w){w':World}{i:Nat}{o:Oper}(ho:ops[i]?=some o)(ak:listed.getD i true=false)(Z:b<=i)(ag:i∉effs)(af:∀e∈effs,b<=e->i <e)(G:∀e∈o.after,Region.binds .any e=true->listed.getD e.on false=true)
  (O:∀d,o.dst=some d->d <n){v:Value}{L':Ls}(V:Tr κ.M (F b) L w (F b) L' w' [])(U:ar γ κ (F b) L' w')(hv:∀t,o.dst=some t->SR (MA κ.M (F b) L') L' w' (E (i+1) t) v):fj γ κ ops effs n E F b L' (listed.setIfInBounds i true) (a.put o.dst v) w' where
 hd:=by rw[put_defers];exact h.hd.tr h.core V
 hn:=by rw[dz,h.hn]
 hs:=by rw[Array.size_setIfInBounds];exact h.hs
 hb:=h.hb
 low:=fun k y=>by rw[getD_set_ne true (by omega)];exact h.low k y
 n7:=fun k z y D e Q J=>by
  by_cases u:k=i
  ·subst u;exact af e Q J
  ·rw[getD_set_ne true (Ne.symm u)]at D;exact h.n7 k z y D e Q J
 core:=U
 done:=fun k ok t y z hd D=>by
  by_cases u:k=i
  ·subst u;rw[ho]at y;cases y;rw[hd,kF (by rw[h.hn];exact O t hd)];exact hv t hd
  ·rw[ec (hok.dst i o k ok t ho y u hd)];rw[getD_set_ne true (Ne.symm u)]at D;exact V.sr (h.done k ok t y z hd D)
 rest:=fun t ht=>by
  have hi:o.dst≠some t:=fun hd=>by
   have ad:i <listed.size:=by rw[h.hs];exact(Array.getElem?_eq_some_iff.1 ho).1
   have:=ht i o ho Z hd;rw[Array.getD_eq_getD_getElem?,Array.getElem?_setIfInBounds_self_of_lt ad]at this;cases this
  rw[ec hi];refine V.sr (h.rest t fun k ok y z hd=>?_);have u:k≠i:=fun e=>by subst e;rw[ho]at y;cases y;exact hi hd
  have:=ht k ok y z hd;rw[getD_set_ne true (Ne.symm u)]at this;exact this
 cu:=fun k ok y D e Q I=>by
  by_cases u:k=i
  ·subst u;rw[ho]at y;cases y;exact getD_set_true (G e Q I)
  ·rw[getD_set_ne true (Ne.symm u)]at D;exact getD_set_true (h.cu k ok y D e Q I)
def fj.jump(h:fj γ κ ops effs n E F b L listed a w){w':World}{i:Nat}{o:Oper}(ho:ops[i]?=some o)(Q:∀k,k <i->listed.getD k true=true)(I:∀k,i <k->k <ops.size->listed.getD k true=false)(D:∀e∈o.after,Region.binds .any e=true->listed.getD e.on false=true)
  {v:Value}{L':Ls}(hd:Marks κ w' a.defers)(J:ar γ κ (F (i+1)) L' w')(Z:∀t,SR (MA κ.M (F (i+1)) L') L' w' (E (i+1) t) ((a.put o.dst v).tmps.getD t undef)):fj γ κ ops effs n E F (i+1) L' (listed.setIfInBounds i true) (a.put o.dst v) w' where
 hd:=by rw[put_defers];exact hd
 hn:=by rw[dz,h.hn]
 hs:=by rw[Array.size_setIfInBounds];exact h.hs
 hb:=(Array.getElem?_eq_some_iff.1 ho).1
 low:=fun k y=>by
  by_cases u:k=i
  ·subst u;have U:k <listed.size:=by rw[h.hs];exact(Array.getElem?_eq_some_iff.1 ho).1
   rw[Array.getD_eq_getD_getElem?,Array.getElem?_setIfInBounds_self_of_lt U];rfl
  ·rw[getD_set_ne true (Ne.symm u)];exact Q k (by omega)
 n7:=fun k O y z=>by
  rw[getD_set_ne true (by omega),I k (by omega) y]at z;cases z
 core:=J
 done:=fun k ok t y O hd z=>by
  rw[getD_set_ne true (by omega),I k (by omega) (Array.getElem?_eq_some_iff.1 y).1]at z;cases z
 rest:=fun t _=>Z t
 cu:=fun k ok y z e V G=>by
  by_cases u:k=i
  ·subst u;rw[ho]at y;cases y;exact getD_set_true (D e V G)
  ·rw[getD_set_ne true (Ne.symm u)]at z;exact getD_set_true (h.cu k ok y z e V G)
def Je{rd:Option Nat}{dn:Nat}(hS:c7 g.P γ C)(hok:ox ops effs)(aU:eG n ops.toList=true)(hE:Steps g C ops effs E F){Q:Exit->Act->World->Prop}
  (hK:∀L a w,Marks κ w a.defers->a.tmps.size=n->ar γ κ (F ops.size) L w->(∀t,SR (MA κ.M (F ops.size) L) L w (E ops.size t) (a.tmps.getD t undef))->Q .normal a w):
  ∀(I:Nat) (b:Nat) (L:Ls) (listed:Array Bool) (a:Act) (w:World),dR listed ops.size<=I->fj γ κ ops effs n E F b L listed a w->wpAnyIn (Fw rd) dn g.P .any ops Q I listed a w:=by
 have af:∀(i:Nat) (o:Oper),ops[i]?=some o->∀d,o.dst=some d->d <n:=fun i o Z d hd=>gD aU (Array.mem_toList_iff.2 (Array.mem_of_getElem? Z)) hd
 have fin:∀(b:Nat) (L:Ls) (listed:Array Bool) (a:Act) (w:World),(∀k,k <ops.size->listed.getD k true=true)->fj γ κ ops effs n E F b L listed a w->Q .normal a w:=fun b L listed a w U h=>by
  have hm:∀m,b<=m->m <ops.size->m∉effs:=fun m h1 h2 h3=>Nat.lt_irrefl _ (h.n7 m h1 h2 (U m h2) m h3 h1);have hF:=sS hE ops.size h.hb (Nat.le_refl _) hm;refine hK L a w h.hd h.hn (by rw[hF];exact h.core) fun t=>?_;rw[hF]
  exact h.slot hok hE h.hb (Nat.le_refl _) hm (fun k ok G _ _ _=>(Array.getElem?_eq_some_iff.1 G).1) (fun k ok G _ _ hl=>by
   have:=U k (Array.getElem?_eq_some_iff.1 G).1;rw[hl]at this;cases this)
 intro I
 induction I with
 |zero=>
  intro b L listed a w hu h;have U:=pS (listed:=listed) ops.size (by omega);refine⟨?_,fin b L listed a w U h⟩
  cases hr:Region.ready .any ops listed with
  |nil=>rfl
  |cons i l=>
   have hm:i∈Region.ready .any ops listed:=by rw[hr];simp
   obtain⟨hl,o,Z,_⟩:=mem_ready.1 hm;have:=U i (Array.getElem?_eq_some_iff.1 Z).1;rw[hl]at this;cases this
 |succ I ih=>
  intro b L listed a w hu h;refine⟨fun hr=>fin b L listed a w (Bl hok h.hs hr) h,fun i hi=>?_⟩;obtain⟨hl,o,Z,J⟩:=mem_ready.1 hi;have aB:=(Array.getElem?_eq_some_iff.1 Z).1;have D:=hE i o Z
  have bb:dR (listed.setIfInBounds i true) ops.size<=I:=by
   have:=oo hl ops.size;rw[if_pos aB]at this;omega
  have al:b<=i:=by
   rcases Nat.lt_or_ge i b with h1|h1
   ·have:=h.low i h1;rw[hl]at this;cases this
   ·exact h1
  have ag:∀k,eE ops i k->listed.getD k true=true:=fun k ha=>h.gw ha fun o' aw=>by rw[Z]at aw;cases aw;exact J
  have a7:∀e∈effs,b<=e->¬e <i:=fun e he aq a6=>by
   have h1:=ag e ((hok.eff e he i aB).2 a6);exact Nat.lt_irrefl _ (h.n7 e aq (by omega) h1 e he aq)
  have hm:∀m,b<=m->m <i->m∉effs:=fun m h1 h2 h3=>a7 m h3 h1 h2;have hF:F i=F b:=sS hE i al (by omega) hm
  have ak:∀k,cK o k=true->listed.getD k true=true/\k <i:=fun k G=>by
   obtain⟨e,he,hb,rfl⟩:=fQ G;exact⟨fz (J e he hb),hok.back i o Z e he hb⟩
  have a_:∀y∈o.op.operands,SR (MA κ.M (F i) L) L w (cE (E i) y) (a.eval y):=fun y hy=>by
   rw[hF]
   cases y with
   |const v=>exact gA v
   |global g=>exact .dead _
   |func f=>exact .t _ _ (.fn _ [] #[] #[] rfl (fun j x u hx _=>by simp at hx))
   |tmp t=>
    refine h.slot hok hE al (by omega) hm (fun k ok G aJ hd z=>?_) (fun k ok G aJ hd z=>?_)
    ·have bf:k≠i:=fun e=>by subst e;rw[hl]at z;cases z
     rcases hok.use i o k ok t Z G bf hd hy with h1|h1
     ·exact(ak k h1).2
     ·obtain⟨e,he,hb,rfl⟩:=fQ h1;have:=fz (h.cu k ok G z e he hb);rw[hl]at this;cases this
    ·rcases Nat.lt_or_ge k i with a6|be
     ·rcases hok.use i o k ok t Z G (by omega) hd hy with h1|h1
      ·have:=(ak k h1).1;rw[z]at this;cases this
      ·obtain⟨e,he,hb,rfl⟩:=fQ h1;have:=hok.back k ok G e he hb;omega
     ·exact be
  have ao:ar γ κ (F i) L w:=by rw[hF];exact h.core
  -- what comes behind this operation,once it is carried out
  have next:∀(v:Value) (w':World) (L':Ls) (x:SV) (ks:List Nat),Tr κ.M (F i) L w (F (i+1)) L' w' ks->ar γ κ (F (i+1)) L' w'->SR (MA κ.M (F (i+1)) L') L' w' x v->E (i+1)=aD (cF ks (E i)) o.dst x->(i∉effs->ks=[])->wpAnyIn (Fw rd) dn g.P .any ops Q I (listed.setIfInBounds i true) (a.put o.dst v) w':=fun v w' L' x ks hT ad hv O aM=>by
   by_cases V:i∈effs
   ·have a1:∀k,k <i->listed.getD k true=true:=fun k G=>ag k ((hok.eff i V k (by omega)).1 G)
    have aV:∀k,i <k->k <ops.size->listed.getD k true=false:=fun k G aM=>by
     rw[<- Bool.not_eq_true];intro z;have:=h.gw ((hok.eff i V k aM).2 G) fun o' aw=>h.cu k o' aw z;rw[hl]at this;cases this
    refine ih _ _ _ _ _ bb (h.jump Z a1 aV J (h.hd.tr ao hT) ad fun t=>?_);rw[O];refine iY (fun t=>?_) hv (fun k G=>by rw[h.hn];exact af i o Z k G) t;refine hT.env ?_;rw[hF];refine h.slot hok hE al (by omega) hm (fun k ok G _ _ z=>?_) (fun k ok G _ _ z=>?_)
    ·have:=(Array.getElem?_eq_some_iff.1 G).1;rcases Nat.lt_trichotomy k i with h1|h1|h1
     ·exact h1
     ·subst h1;rw[hl]at z;cases z
     ·rw[aV k h1 this]at z;cases z
    ·rcases Nat.lt_or_ge k i with h1|h1
     ·rw[a1 k h1]at z;cases z
     ·exact h1
   ·obtain⟨bd,_⟩:=hE.uQ Z V;rw[bd,hF]at hT ad hv;obtain rfl:=aM V;refine ih _ _ _ _ _ bb (h.put hok Z hl al V (fun e he aq=>?_) J (af i o Z) hT ad fun t ht=>?_)
    ·have:=a7 e he aq;have:e≠i:=fun h=>V (by rw[<- h];exact he);omega
    ·rw[O,ht];show SR _ _ _ (cB _ t x t) v
     rw[fe];exact hv
  have an:∀{x:SV} {f1:Fr} {ks:List Nat},step g C (some effs) i (E i) (F i) o.op=some (x,f1,ks)->i∉effs->ks=[]:=fun{x f1 ks} D V=>by
   unfold step at D;simp only[dJ.2 V]at D;exact(qA D).2
  unfold wpOpIn;simp only[Z];unfold lG at D
  cases hg:o.guard with
  |none=>
   rw[hg]at D;obtain⟨x,ks,D,O⟩:=D;rw[if_pos (by simp[Region.wanted,hg])];exact(fb hS D κ L a w ao a_).wpIn fun v w' ⟨L',hT,ad,hv⟩=>next v w' L' x ks hT ad hv O (an D)
  |some gj=>
   obtain⟨j,aE⟩:=gj;rw[hg]at D;obtain⟨bh,bj⟩:=ak j (hok.guard i o j aE Z hg)
   have bc:∀W,db ops (E i) j aE=some W->Region.wanted o (yielded ops a.tmps)=W:=fun W hW=>mz (A:=MA κ.M (F b) L) (L:=L) (w:=w) hg hW fun d au=>by
    cases am:ops[j]? with
    |none=>rw[am]at au;cases au
    |some oj=>
     rw[am]at au;have aL:oj.dst=some d:=au;refine⟨?_,by rw[h.hn];exact af j oj am d aL⟩;refine h.slot hok hE al (by omega) hm (fun k ok G aJ hd z=>?_) (fun k ok G aJ hd z=>?_)
     ·rcases Nat.lt_or_ge k j with h1|h1
      ·omega
      ·rcases Nat.eq_or_lt_of_le h1 with h2|h2
       ·omega
       ·exact absurd aL (hok.dst j oj k ok d am G (by omega) hd)
     ·by_cases aY:k=j
      ·subst aY;rw[bh]at z;cases z
      ·exact absurd aL (hok.dst j oj k ok d am G aY hd)
   rcases D with⟨hW,x,ks,D,O⟩|⟨hW,aQ,O⟩
   ·rw[bc _ hW,if_pos rfl];exact(fb hS D κ L a w ao a_).wpIn fun v w' ⟨L',hT,ad,hv⟩=>next v w' L' (.aN x) ks hT ad (.aN _ _ hv) O (an D)
   ·rw[bc _ hW,if_neg (by simp)];exact⟨fun _ _=>trivial,next undef w L .no [] (by rw[aQ];exact Tr.refl) (by rw[aQ];exact ao) .no O (fun _=>rfl)⟩
end
def ji(g:Cfg)(C:CallF)(effs:List Nat)(ops:Array Oper)(i:Nat)(o:Oper)(E:Env)(F:Fr)(E':Env)(v:Fr):Prop:=
 o8 effs ops E i=true/\match o.guard with
 |none=>∃x,step g C (some effs) i E F o.op=some (x,v,[])/\E'=aD E o.dst x
 |some (j,u)=>(db ops E j u=some true/\∃x,step g C (some effs) i E F o.op=some (x,v,[])/\E'=aD E o.dst (.aN x))\/(db ops E j u=some false/\v=F/\E'=aD E o.dst .no)
theorem px{g:Cfg}{C:CallF}{effs:List Nat}{ops:Array Oper}{env':Env}{fr':Fr}:∀(l:List Oper) (n:Nat) (env:Env) (fr:Fr),ei g C effs ops n l env fr=some (env',fr')->
  ∃(E:Nat->Env) (F:Nat->Fr),E 0=env/\F 0=fr/\(∀i o,l[i]?=some o->ji g C effs ops (n+i) o (E i) (F i) (E (i+1)) (F (i+1)))/\E l.length=env'/\F l.length=fr'
 |[],n,env,fr,h=>by
  unfold ei at h;cases h;exact⟨fun _=>env',fun _=>fr',rfl,rfl,fun i o ho=>by simp at ho,rfl,rfl⟩
 |o::l,n,env,fr,h=>by
  have:∃D u,ji g C effs ops n o env fr D u/\ei g C effs ops (n+1) l D u=some (env',fr'):=by
   unfold ei at h;unfold ji;split at h
   ·cases h
   ·rename_i v;split at h
    ·rename_i I;rw[I];split at h
     ·rename_i x u y;exact⟨_,u,⟨v,x,y,rfl⟩,h⟩
     ·cases h
    ·rename_i j J I;rw[I];split at h
     ·cases h
     ·rename_i G;split at h
      ·rename_i x u y;exact⟨_,u,⟨v,.inl ⟨G,x,y,rfl⟩⟩,h⟩
      ·cases h
     ·rename_i G;exact⟨_,_,⟨v,.inr ⟨G,rfl,rfl⟩⟩,h⟩
  obtain⟨D,u,h1,h2⟩:=this;obtain⟨E,F,O,Q,U,V,Z⟩:=px l (n+1) D u h2;refine⟨fun i=>match i with|0=>env|i+1=>E i,fun i=>match i with|0=>fr|i+1=>F i,rfl,rfl,fun i o' z=>?_,V,Z⟩
  cases i with
  |zero=>cases z;show ji g C effs ops (n+0) _ env fr (E 0) (F 0);rw[O,Q];exact h1
  |succ i=>
   have:=U i o' (by simpa using z);rw[Nat.add_assoc,Nat.add_comm 1 i]at this;exact this
def E_{P:Program}{t:Nat}{x:SV}{fr fr':Fr}(hv:∀b p k,x≠.lr b p k)(h:∀b,((∃j,x=.lp b j)\/∃sz k j,x=.le b sz k j)->fr[b]?=fr'[b]?):eK P fr t x=eK P fr' t x:=by
 unfold eK
 cases x with
 |lp i j=>simp only[h i (.inl ⟨j,rfl⟩)]
 |le i sz k j=>simp only[h i (.inr ⟨sz,k,j,rfl⟩)]
 |lr b p k=>exact absurd rfl (hv b p k)
 |t y=>cases y <;>rfl
 |_=>rfl
def Ef{P:Program}{t:Nat}{x i:SV}{fr fr':Fr}(hv:(∀b sz a n,x≠.lv b sz a n)/\∀b p,x≠.lo b p)(h:∀b,x=.ls b->fr[b]?=fr'[b]?):gK P fr t x i=gK P fr' t x i:=by
 unfold gK
 cases x with
 |lv b sz a n=>exact absurd rfl (hv.1 b sz a n)
 |lo b p=>exact absurd rfl (hv.2 b p)
 |ls r=>simp only[h r rfl]
 |t y=>cases y <;>rfl
 |_=>rfl
def Gn{env:Env}{t:Nat}{y:Operand}{u:List Nat}(h:b_ env (.load t y)=some u):∀b,(((∃j,rd env y=.lp b j)\/∃sz k j,rd env y=.le b sz k j)->u=[b]):=by
 intro b v;have h:(match rd env y with|.lp i _=>some [i]|.le i _ _ _=>some [i]|.lr ..=>none|_=>some [])=some u:=h;rcases v with⟨j,e⟩|⟨sz,k,j,e⟩
 ·rw[e]at h;cases h;rfl
 ·rw[e]at h;cases h;rfl
def zj{env:Env}{t:Nat}{y:Operand}{z:List Nat}(h:b_ env (.load t y)=some z):∀b∈z,(∃j,rd env y=.lp b j)\/∃sz k j,rd env y=.le b sz k j:=by
 intro b v;have h:(match rd env y with|.lp i _=>some [i]|.le i _ _ _=>some [i]|.lr ..=>none|_=>some [])=some z:=h
 cases u:rd env y with
 |lp i j=>
   rw[u]at h;cases h;obtain rfl:b=i:=by simpa using v
   exact .inl ⟨j,rfl⟩
 |le i sz k j=>
   rw[u]at h;cases h;obtain rfl:b=i:=by simpa using v
   exact .inr ⟨sz,k,j,rfl⟩
 |lr i p k=>rw[u]at h;cases h
 |_=>rw[u]at h;cases h;cases v
def Gp{env:Env}{t:Nat}{y:Operand}{u:List Nat}(h:b_ env (.load t y)=some u):∀b p k,rd env y≠.lr b p k:=fun b p k e=>by
 have h:(match rd env y with|.lp i _=>some [i]|.le i _ _ _=>some [i]|.lr ..=>none|_=>some [])=some u:=h;rw[e]at h;cases h
def u_{env:Env}{t:Nat}{x i:Operand}{v:List Nat}(h:b_ env (.indexAddr t x i)=some v):(∀b,rd env x=.ls b->v=[b])/\∀b∈v,rd env x=.ls b:=by
 have h:(match rd env x with|.ls i=>some [i]|.lv ..=>none|.lo ..=>none|_=>some [])=some v:=h;refine⟨fun b e=>by rw[e]at h;cases h;rfl,fun b y=>?_⟩
 cases u:rd env x with
 |ls i=>
   rw[u]at h;cases h;obtain rfl:b=i:=by simpa using y
   rfl
 |lv b sz a n=>rw[u]at h;cases h
 |lo b p=>rw[u]at h;cases h
 |_=>rw[u]at h;cases h;cases y
def Gm{env:Env}{t:Nat}{x i:Operand}{u:List Nat}(h:b_ env (.indexAddr t x i)=some u):(∀b sz a n,rd env x≠.lv b sz a n)/\∀b p,rd env x≠.lo b p:=by
 have h:(match rd env x with|.ls i=>some [i]|.lv ..=>none|.lo ..=>none|_=>some [])=some u:=h;refine⟨fun b sz a n e=>?_,fun b p e=>?_⟩
 ·rw[e]at h;cases h
 ·rw[e]at h;cases h
def u7{env:Env}{b:BinOp}{xt yt:TypeId}{x y:Operand}{u:List Nat}(h:b_ env (.binOp b xt x y yt)=some u):u=[]/\∀i,rd env x≠.ls i:=by
 have h:(match rd env x with|.ls _=>none|_=>some [])=some u:=h
 cases v:rd env x with
 |ls i=>rw[v]at h;cases h
 |_=>rw[v]at h;cases h;exact⟨rfl,fun i e=>by cases e⟩
def BI{P:Program}{b:BinOp}{t:Nat}{s s':SV}{fr fr':Fr}(h:∀i,s≠.ls i):mP P fr b t s s'=mP P fr' b t s s':=by
 unfold mP
 cases s with
 |ls i=>exact absurd rfl (h i)
 |lv i sz a n=>cases s' <;>cases n <;>rfl
 |_=>rfl
theorem pB{fr:Fr}:∀{cs:List SV},cs.all eI=true->bg fr cs=[]
 |[],_=>rfl
 |c::cs,h=>by
  rw[List.all_cons,Bool.and_eq_true]at h;rw[bg,pB h.2];cases c <;>first|rfl|(have h1:false=true:=h.1;cases h1)
def zi{env:Env}{args:Array Operand}{tys:Array TypeId}{v:List Nat}(h:b_ env (.call ⟨.builtin .len,args,tys⟩)=some v):v=[]/\(args.toList.map (rd env)).all eI=true:=by
 unfold b_ at h;simp only at h;split at h
 ·rename_i u;cases h;exact⟨rfl,u⟩
 ·cases h
def zg{env:Env}{c:Operand}{args:Array Operand}{tys:Array TypeId}{y:List Nat}(h:b_ env (.call ⟨.value c,args,tys⟩)=some y):y=[]/\∃g pa v,c8 (rd env c)=some (g,pa,v)/\(pa++args.toList.map (rd env)++v).all eI=true:=by
 unfold b_ at h;simp only at h;split at h
 ·rename_i g pa v z;split at h
  ·rename_i u;cases h;exact⟨rfl,g,pa,v,z,u⟩
  ·cases h
 ·cases h
def zh{env:Env}{c:Call}{v:List Nat}(h:b_ env (.call c)=some v):v=[]:=by
 obtain⟨u,y,z⟩:=c;cases u
 case value f=>exact(zg h).1
 case builtin b=>
  cases b
  case len=>exact(zi h).1
  all_goals(have h:none=some v:=h;cases h)
 all_goals(have h:none=some v:=h;cases h)
def EZ{P:Program}{fr fr':Fr}{t:Option Nat}{x:SV}(h:eI x=true):l_ P fr t x=l_ P fr' t x:=by
 cases t with
 |none=>rfl
 |some t=>cases x <;>first|(cases h;done)|(rename_i y;cases y <;>rfl)
def BX{P:Program}{env:Env}{fr fr':Fr}{args:List Operand}{tys:Array TypeId}(h:(args.map (rd env)).all eI=true):oL P fr env (.builtin .len) args tys=oL P fr' env (.builtin .len) args tys:=by
 match args,h with
 |[],_=>rfl
 |[y],h=>
  rw[List.map_cons,List.all_cons,Bool.and_eq_true]at h;exact EZ h.1
 |[_,_],_=>rfl
 |_::_::_::_,_=>rfl
theorem AC{fr fr':Fr}:∀{l:List SV},l.all eI=true->bZ fr l=bZ fr' l
 |[],_=>rfl
 |c::l,h=>by
  rw[List.all_cons,Bool.and_eq_true]at h;rw[bZ,bZ,AC (fr':=fr') h.2];cases c <;>first|rfl|(have h1:false=true:=h.1;cases h1)
theorem vW:∀(bs:List Bool) {l:List SV},l.all eI=true->(a8 bs l).all eI=true
 |[],l,h=>by cases l <;>rfl
 |b::_,[],h=>by cases b <;>rfl
 |b::bs,c::l,h=>by
  rw[List.all_cons,Bool.and_eq_true]at h;have u:=vW bs h.2
  cases b with
  |true=>exact u
  |false=>show((c::a8 bs l).all eI)=true;rw[List.all_cons,h.1,u];rfl
def B_{g:Cfg}{C:CallF}{fr u:Fr}{f:Nat}{args:List SV}{x:SV}{ks:List Nat}(v:args.all eI=true)(h:fu g C true fr f args=some (x,fr,ks)):fu g C true u f args=some (x,u,ks):=by
 have I:=vW (aK g f 0 args) v;unfold fu at h⊢;rw[AC (fr':=u) I]at h;rw[pB I]at h⊢;have J:∀r:Fr,o_ r []=true:=fun _=>rfl;simp only[J]at h⊢;split at h
 ·cases h
 ·rename_i xs D
  try simp only[D]
  split at h
  ·rename_i Q
   try simp only[Q]
   split at h
   ·cases h
   ·rename_i r V O
    try simp only[O]
    split at h
    ·rename_i z;cases h
     try simp only[z]
    ·rename_i z
     try simp only[z]
     try simp only at h
     split at h
     ·rename_i G;cases h;simp only[G]
     ·rename_i G;split at h
      ·rename_i y U;cases h;first|simp only[U]|(split <;>simp_all)
      ·cases h
  ·cases h
def uA{g:Cfg}{C:CallF}{env:Env}{op:Op}{J:List Nat}{fr u:Fr}{x:SV}(hc:jE op=true)(z:b_ env op=some J)(hx:eX g C env fr op=some (x,fr,[])):eX g C env u op=some (x,u,[]):=by
 cases op with
 |makeSlice t l c=>
  unfold eX at hx⊢;simp only[jE]at hx⊢;unfold bu pq at hx⊢;simp only at hx⊢;split at hx
  ·rename_i I;cases hx;simp only[I]
  ·cases hx
 |call c=>
  obtain⟨G,D,O⟩:=c;cases G
  case value G=>
   obtain⟨_,fn,Q,U,y,v⟩:=zg z;unfold eX at hx⊢;simp only[jE]at hx⊢;unfold bu jY at hx⊢;simp only[y]at hx⊢;exact B_ v hx
  all_goals cases hc
 |_=>cases hc
def vd{P:Program}{env:Env}{op:Op}{v:List Nat}{fr fr':Fr}(h:b_ env op=some v)(ha:∀b∈v,fr[b]?=fr'[b]?):bt P fr env op=bt P fr' env op:=by
 cases op
 case load t y=>exact E_ (Gp h) fun b z=>ha b (by rw[Gn h b z];simp)
 case binOp b I x y J=>
  have:=BI (P:=P) (b:=b) (t:=I) (s':=rd env y) (fr:=fr) (fr':=fr') (u7 h).2;unfold bt;simp only[this]
 case indexAddr t x i=>exact Ef (Gm h) fun b z=>ha b (by rw[(u_ h).1 b z];simp)
 case call c=>
  obtain⟨u,D,G⟩:=c;cases u
  case value f=>rfl
  case builtin b=>
   cases b
   case len=>exact BX (zi h).2
   all_goals(have h:none=some v:=h;cases h)
  all_goals(have h:none=some v:=h;cases h)
 all_goals first
  |rfl
  |(have h:none=some v:=h;cases h)
def vc{P:Program}{env:Env}{op:Op}{z:List Nat}{fr:Fr}{x:SV}(h:b_ env op=some z)(hx:bt P fr env op=some x):∀b∈z,b <fr.length:=by
 intro b u;cases op
 case load t y=>
  have hx:eK P fr t (rd env y)=some x:=hx;unfold eK at hx
  cases v:fr[b]? with
  |some D=>exact aC v
  |none=>
   rcases zj h b u with⟨j,e⟩|⟨sz,k,j,e⟩
   ·simp only[e,v]at hx;split at hx <;>cases hx
   ·simp only[e,v]at hx;split at hx <;>cases hx
 case indexAddr t y i=>
  have hx:gK P fr t (rd env y) (rd env i)=some x:=hx;unfold gK at hx
  cases v:fr[b]? with
  |some D=>exact aC v
  |none=>
   simp only[(u_ h).2 b u,v]at hx
   repeat'(split at hx)
   all_goals first|(cases hx;done)|contradiction
 case binOp G I x y J=>rw[(u7 h).1]at u;cases u
 case call c=>rw[zh h]at u;cases u
 all_goals first
  |(have h:some []=some z:=h;cases h;cases u;done)
  |(have h:none=some z:=h;cases h)
def u9{op:Op}{e z:Env}(h:∀y∈op.operands,cE e y=cE z y):b_ e op=b_ z op:=by
 cases op
 case load t y=>unfold b_;simp only[rd,h y (by simp[Op.operands])]
 case binOp b O x y Q=>unfold b_;simp only[rd,h x (by simp[Op.operands])]
 case indexAddr t x i=>unfold b_;simp only[rd,h x (by simp[Op.operands])]
 case call c=>
  obtain⟨v,u,J⟩:=c;cases v
  case value f=>
   have I:rd e f=rd z f:=congrArg un (h f (by simp[Op.operands,Call.operands]));have G:u.toList.map (rd e)=u.toList.map (rd z):=List.map_congr_left fun y D=>congrArg un (h y (by simp only[Op.operands,Call.operands];simp;exact .inr (by simpa using D)));unfold b_;simp only[I,G]
  case builtin b=>
   cases b
   case len=>
    have G:u.toList.map (rd e)=u.toList.map (rd z):=List.map_congr_left fun y D=>congrArg un (h y (by simp only[Op.operands,Call.operands];simp;first|exact .inr (by simpa using D)|simpa using D));unfold b_;simp only[G]
   all_goals rfl
  all_goals rfl
 all_goals rfl
def Jj{op:Op}{e z:Env}(h:∀y∈op.operands,cE e y=cE z y):eD e op=eD z op:=by
 cases op
 case store t a x=>unfold eD;simp only[rd,h a (by simp[Op.operands]),h x (by simp[Op.operands])]
 case call c=>
  obtain⟨v,u,Q⟩:=c;cases v
  case builtin b=>
   cases b
   case copy=>
    unfold eD
    cases D:u.toList with
    |nil=>simp only[D]
    |cons x l=>
     have J:cE e x=cE z x:=h x (by
      have:x∈u.toList:=by rw[D];simp
      simp only[Op.operands,Call.operands];simpa using this)
     cases l with
     |nil=>simp only[D]
     |cons y l=>cases l <;>simp only[D,rd,J]
   all_goals rfl
  case value f=>
   have G:rd e f=rd z f:=congrArg un (h f (by simp[Op.operands,Call.operands]));have I:u.toList.map (rd e)=u.toList.map (rd z):=List.map_congr_left fun y O=>congrArg un (h y (by simp only[Op.operands,Call.operands];simp;exact .inr (by simpa using O)));unfold eD;simp only[G,I]
  all_goals rfl
 all_goals rfl
theorem xz:∀(bs:List Bool) {l:List SV},l.all eI=true->du bs l=[]
 |[],l,h=>by cases l <;>rfl
 |b::_,[],h=>by cases b <;>rfl
 |b::bs,c::l,h=>by
  rw[List.all_cons,Bool.and_eq_true]at h;have u:=xz bs h.2
  cases b with
  |false=>exact u
  |true=>
   show c.refs++du bs l=[]
   rw[u];cases c <;>first|rfl|(have h1:false=true:=h.1;cases h1)
def Jk{g:Cfg}{C:CallF}{env:Env}{fr fr':Fr}{op:Op}{x:SV}{ks Z:List Nat}(h:eD env op=some Z)(hx:bJ g C env fr op=some (x,fr',ks)):∀b,b∉Z->b <fr.length->fr'[b]?=fr[b]?:=by
 cases op
 case alloc T=>
  unfold bJ bu at hx;simp only[fA]at hx;split at hx
  ·cases hx;intro b _ D;exact List.getElem?_append_left D
  ·cases hx
 case box T y=>
  unfold bJ bu at hx;simp only[fA]at hx;split at hx
  ·cases hx;intro b _ D;exact List.getElem?_append_left D
  ·cases hx
 case makeSlice t l c=>
  unfold bJ bu ky at hx;simp only[fA]at hx
  repeat'(split at hx)
  all_goals first
   |(cases hx;intro b _ D;exact List.getElem?_append_left D)
   |(cases hx;done)
 case store t a y=>
  unfold bJ bu fW at hx;simp only[fA]at hx;unfold eD at h;intro b D I;split at hx
  ·cases hx
  ·split at hx
   ·cases hx
   ·cases U:rd env a with
    |lp i j=>
     simp only[U]at h hx;cases h;split at hx
     ·split at hx
      ·cases hx;exact List.getElem?_set_ne (by intro e;exact D (by simp[e]))
      ·cases hx
     ·cases hx
    |le i sz k j=>
     simp only[U]at h hx;split at h
     ·rename_i z;cases h;split at hx
      ·split at hx
       ·cases hx
       ·split at hx
        ·cases hx
        ·split at hx
         ·cases hx
         ·split at hx
          ·cases hx
          ·split at hx
           ·cases hx
           ·cases hx;rw[pB z];exact List.getElem?_set_ne (by intro e;exact D (by simp[e]))
      ·cases hx
     ·cases h
    |_=>simp only[U]at h;cases h
 case call c=>
  obtain⟨G,ad,af⟩:=c;cases G
  case builtin b'=>
   cases b'
   case copy=>
    unfold bJ bu at hx;simp only[fA]at hx;unfold eD at h;split at hx
    ·rename_i u v t u' hl ht;simp only[hl]at h;intro b D I
     have Q:∀(i:Nat),Z=[i]->∀zs sz a n,mW fr zs i sz a n=some (x,fr',ks)->fr'[b]?=fr[b]?:=fun i hi zs sz a n J=>by
      unfold mW at J;split at J
      ·split at J
       ·cases J;exact List.getElem?_set_ne (by intro e;exact D (by simp[hi,e]))
       ·cases J
      ·cases J
     unfold qq at hx;split at hx
     ·cases hx
     ·split at hx
      ·cases hx
      ·split at hx
       ·cases hx
       ·split at hx
        ·rename_i V;simp only[V]at h;cases h;split at hx
         ·exact Q _ rfl _ _ _ _ hx
         ·cases hx
        ·rename_i V;simp only[V]at h;cases h;split at hx
         ·exact Q _ rfl _ _ _ _ hx
         ·cases hx
        ·cases hx
    ·cases hx
   all_goals(unfold eD at h;cases h)
  case value f=>
   unfold bJ bu jY at hx;simp only[fA]at hx;unfold eD at h;simp only at h;split at h
   ·rename_i f' pa qa O;simp only[O]at hx;split at h
    ·rename_i z;intro b _ I;unfold fu at hx;rw[xz _ z,pB (vW _ z)]at hx;split at hx
     ·cases hx
     ·have e0:bR [] ([]:List Nat)=[]:=rfl;rw[e0]at hx;simp only at hx;split at hx
      ·cases hx
      ·split at hx
       ·cases hx;rfl
       ·cases hx;exact List.getElem?_append_left I
    ·cases h
   ·cases h
  all_goals(unfold eD at h;cases h)
 all_goals(unfold eD at h;cases h)
def H1{ops:Array Oper}{op:Op}{j m:Nat}(h:ll ops op j m=true){t:Nat}(ht:.tmp t∈op.operands):∀(q:Nat) (u:Oper),j<=q->q <m->ops[q]?=some u->u.dst≠some t:=by
 intro q u G z D y;have h1:=List.all_eq_true.1 h q (List.mem_range.2 z);have v:Nat.blt q j=false:=by rw[<- Bool.not_eq_true,Nat.blt_eq];omega
 rw[v,D]at h1;simp only[y,Bool.false_or,Bool.not_eq_true']at h1
 have:t∈pP op:=by
  unfold pP;rw[List.mem_filterMap];exact⟨.tmp t,Array.mem_toList_iff.2 ht,rfl⟩
 exact absurd this (dJ.1 h1)
def tG{w r:Option (List Nat)}(h:qt w r=true):∃v u,w=some v/\r=some u/\∀b∈u,b∉v:=by
 unfold qt at h;split at h
 ·rename_i v u;refine⟨v,u,rfl,rfl,fun b y z=>?_⟩;have:=List.all_eq_true.1 h b z;rw[Bool.not_eq_true']at this;exact dJ.1 this y
 ·cases h
section
variable {g:Cfg} {γ:Glob} {κ:Ctx} {C:CallF} {ops:Array Oper} {effs:List Nat} {n:Nat} {E:Nat->Env} {F:Nat->Fr}
abbrev gq(g:Cfg)(C:CallF)(ops:Array Oper)(effs:List Nat)(E:Nat->Env)(F:Nat->Fr):Prop:=∀(i:Nat) (o:Oper),ops[i]?=some o->ji g C effs ops i o (E i) (F i) (E (i+1)) (F (i+1))
abbrev jT(g:Cfg)(C:CallF)(ops:Array Oper)(effs:List Nat)(E:Nat->Env)(F:Nat->Fr)(B:Nat):Prop:=B<=ops.size/\∀(i:Nat) (o:Oper),i <B->ops[i]?=some o->ji g C effs ops i o (E i) (F i) (E (i+1)) (F (i+1))
def rX(u:gq g C ops effs E F):jT g C ops effs E F ops.size:=⟨Nat.le_refl _,fun i o _ v=>u i o v⟩
variable {B:Nat}
theorem oy(u:jT g C ops effs E F B)(t j:Nat):∀i,j<=i->i<=B->(∀(k:Nat) (o:Oper),j<=k->k <i->ops[k]?=some o->o.dst≠some t)->E i t=E j t
 |0,h,_,_=>by
   obtain rfl:j=0:=by omega
   rfl
 |i+1,h,J,z=>by
  rcases Nat.lt_or_ge i j with h1|h1
  ·obtain rfl:j=i+1:=by omega
   rfl
  ·have I:=u.1;have D:=Array.getElem?_eq_getElem (xs:=ops) (i:=i) (by omega);have v:=z i _ h1 (by omega) D
   have e:E (i+1) t=E i t:=by
    have:=(u.2 i _ (by omega) D).2;split at this
    ·obtain⟨x,_,h2⟩:=this;rw[h2,iG v]
    ·rcases this with⟨_,x,_,h2⟩|⟨_,_,h2⟩
     ·rw[h2,iG v]
     ·rw[h2,iG v]
   rw[e];exact oy u t j i h1 (by omega) fun k o y G=>z k o y (by omega)
def lC(u:gq g C ops effs E F)(t j:Nat)(i:Nat)(h:j<=i)(hi:i<=ops.size)(hk:∀(k:Nat) (o:Oper),j<=k->k <i->ops[k]?=some o->o.dst≠some t):E i t=E j t:=oy (rX u) t j i h hi hk
def p5(v:jT g C ops effs E F B){i:Nat}(hi:i <B)(hn:i∉effs):F (i+1)=F i:=by
 have y:=v.1;have:=(v.2 i _ hi (Array.getElem?_eq_getElem (by omega))).2
 have u:∀{op x},step g C (some effs) i (E i) (F i) op=some (x,F (i+1),[])->F (i+1)=F i:=fun{op x} h=>by
  unfold step at h;simp only[dJ.2 hn]at h;exact(qA h).1
 split at this
 ·obtain⟨x,h2,_⟩:=this;exact u h2
 ·rcases this with⟨_,x,h2,_⟩|⟨_,h2,_⟩
  ·exact u h2
  ·exact h2
theorem oz(u:jT g C ops effs E F B)(j:Nat):∀i,j<=i->i<=B->(∀m,j<=m->m <i->m∉effs)->F i=F j
 |0,h,_,_=>by
   obtain rfl:j=0:=by omega
   rfl
 |i+1,h,y,v=>by
  rcases Nat.lt_or_ge i j with h1|h1
  ·obtain rfl:j=i+1:=by omega
   rfl
  ·rw[p5 u (by omega) (v i h1 (by omega))];exact oz u j i h1 (by omega) fun m h2 h3=>v m h2 (by omega)
def p6(u:gq g C ops effs E F)(j:Nat)(i:Nat)(h:j<=i)(hi:i<=ops.size)(hm:∀m,j<=m->m <i->m∉effs):F i=F j:=oz (rX u) j i h hi hm
theorem p7(u:jT g C ops effs E F B)(s b:Nat)(hb:b <(F s).length):∀e,s<=e->e<=B->(∀(m:Nat) (om:Oper),s<=m->m <e->m∈effs->ops[m]?=some om->∃J,eD (E m) om.op=some J/\b∉J)->(F e)[b]?=(F s)[b]?
 |0,h,_,_=>by
   obtain rfl:s=0:=by omega
   rfl
 |e+1,h,he,U=>by
  rcases Nat.lt_or_ge e s with h1|h1
  ·obtain rfl:s=e+1:=by omega
   rfl
  ·have hB:=u.1;have I:=p7 u s b hb e h1 (by omega) fun m om h2 h3=>U m om h2 (by omega);rw[<- I];by_cases z:e∈effs
   ·have Q:=Array.getElem?_eq_getElem (xs:=ops) (i:=e) (by omega);obtain⟨J,G,D⟩:=U e _ h1 (by omega) z Q
    have y:b <(F e).length:=by
     obtain⟨lb,v⟩:=av hb;rw[v]at I;exact aC I
    have O:∀{x},step g C (some effs) e (E e) (F e) (ops[e]'(by omega)).op=some (x,F (e+1),[])->(F (e+1))[b]?=(F e)[b]?:=fun{x} h=>by
     unfold step at h
     have Z:bi effs e=true:=by
      rw[<- Bool.not_eq_false];exact fun V=>dJ.1 V z
     simp only[Z]at h;exact Jk G h b D y
    have:=(u.2 e _ (by omega) Q).2;split at this
    ·obtain⟨x,h2,_⟩:=this;exact O h2
    ·rcases this with⟨_,x,h2,_⟩|⟨_,h2,_⟩
     ·exact O h2
     ·rw[h2]
   ·rw[p5 u (by omega) z]
def oV(D:jT g C ops effs E F B){op:Op}{j m:Nat}(u:j<=m)(hm:m<=B)(h:ll ops op j m=true):∀y∈op.operands,cE (E m) y=cE (E j) y:=by
 intro y I
 cases y with
 |tmp t=>exact oy D t j m u hm fun k o G v z=>H1 h I k o G v z
 |_=>rfl
def Dk(v:gq g C ops effs E F){op:Op}{j m:Nat}(u:j<=m)(hm:m<=ops.size)(h:ll ops op j m=true):∀y∈op.operands,cE (E m) y=cE (E j) y:=oV (rX v) u hm h
structure cq (γ:Glob) (κ:Ctx) (ops:Array Oper) (effs:List Nat) (n:Nat) (E:Nat->Env) (F:Nat->Fr) (p:Nat) (L:Ls) (listed:Array Bool) (a:Act) (w:World):Prop where
 hd:Marks κ w a.defers
 hn:a.tmps.size=n
 hs:listed.size=ops.size
 hp:p<=ops.size
 low:∀e∈effs,e <p->listed.getD e true=true
 l6:∀e∈effs,p<=e->e <ops.size->listed.getD e true=false
 core:ar γ κ (F p) L w
 done:∀(k:Nat) (o:Oper) (t:Nat),ops[k]?=some o->o.dst=some t->listed.getD k true=true->SR (MA κ.M (F p) L) L w (E (k+1) t) (a.tmps.getD t undef)
 rest:∀(t:Nat),(∀(k:Nat) (o:Oper),ops[k]?=some o->o.dst=some t->listed.getD k true=false)->SR (MA κ.M (F p) L) L w (E 0 t) (a.tmps.getD t undef)
 cu:∀(k:Nat) (o:Oper),ops[k]?=some o->listed.getD k true=true->∀e∈o.after,Region.binds .any e=true->listed.getD e.on false=true
variable {p:Nat} {L:Ls} {listed:Array Bool} {a:Act} {w:World} {E':Nat->Env}
def cq.start(hd:Marks κ w a.defers)(hn:a.tmps.size=n)(z:ar γ κ (F 0) L w)(D:∀t,SR (MA κ.M (F 0) L) L w (E 0 t) (a.tmps.getD t undef)):cq γ κ ops effs n E F 0 L (Array.replicate ops.size false) a w where
 hd:=hd
 hn:=hn
 hs:=by simp
 hp:=Nat.zero_le _
 low:=fun e _ h=>by omega
 l6:=fun e _ _ G=>by rw[Array.getD_eq_getD_getElem?,Array.getElem?_replicate,if_pos G];rfl
 core:=z
 done:=fun k o t y _ u=>by
  have v:=(Array.getElem?_eq_some_iff.1 y).1;rw[Array.getD_eq_getD_getElem?,Array.getElem?_replicate,if_pos v]at u;cases u
 rest:=fun t _=>D t
 cu:=fun k o y u=>by
  have v:=(Array.getElem?_eq_some_iff.1 y).1;rw[Array.getD_eq_getD_getElem?,Array.getElem?_replicate,if_pos v]at u;cases u
def cq.gw(h:cq γ κ ops effs n E F p L listed a w){i k:Nat}(ha:eE ops i k):(∀(o:Oper),ops[i]?=some o->∀e∈o.after,Region.binds .any e=true->listed.getD e.on false=true)->listed.getD k true=true:=by
 induction ha with
 |one i o e z v u=>intro y;exact fz (y o z e v u)
 |more i k o e z v u ha G=>
  intro y;have h1:=fz (y o z e v u);exact G fun I D=>h.cu e.on I D h1
def cq.slot(hok:mC ops effs)(J:gq g C ops effs E F)(h:cq γ κ ops effs n E F p L listed a w){i t:Nat}(hi:i<=ops.size)
  (h1:∀(k:Nat) (ok:Oper),ops[k]?=some ok->ok.dst=some t->listed.getD k true=true->k <i)(h2:∀(k:Nat) (ok:Oper),ops[k]?=some ok->ok.dst=some t->listed.getD k true=false->i<=k):SR (MA κ.M (F p) L) L w (E i t) (a.tmps.getD t undef):=by
 by_cases y:∃(k:Nat) (ok:Oper),ops[k]?=some ok/\ok.dst=some t/\listed.getD k true=true
 ·obtain⟨k,ok,v,u,D⟩:=y;have G:=h1 k ok v u D;rw[lC J t (k+1) i (by omega) hi fun m om O Q I=>hok.dst m om k ok t I v (by omega) u];exact h.done k ok t v u D
 ·have z:∀(k:Nat) (o:Oper),ops[k]?=some o->o.dst=some t->listed.getD k true=false:=fun k o v u=>by
   rw[<- Bool.not_eq_true];exact fun D=>y ⟨k,o,v,u,D⟩
  rw[lC J t 0 i (Nat.zero_le _) hi fun k o _ G v u=>by have:=h2 k o v u (z k o v u);omega];exact h.rest t z
def qc(hok:DrawB ops){listed:Array Bool}(hs:listed.size=ops.size)(hr:Region.ready .any ops listed=[]):∀k,k <ops.size->listed.getD k true=true:=by
 intro k
 induction k using Nat.strongRecOn with
 |_ k ih=>
  intro v;rw[<- Bool.not_eq_false];intro G
  have y:k∈Region.ready .any ops listed:=mem_ready.2 ⟨G,ops[k],Array.getElem?_eq_getElem v,fun e D z=>by
   have u:=hok.back k _ (Array.getElem?_eq_getElem v) e D z;exact xx (by rw[hs];omega) (ih e.on u (by omega))⟩
  rw[hr]at y;cases y
def Gl{fr:Fr}{env:Env}{op:Op}{z:List Nat}(D:ar γ κ fr L w)(h:b_ env op=some z)(G:∀y∈op.operands,SR (MA κ.M fr L) L w (cE env y) (a.eval y)):∀b∈z,b <fr.length:=by
 have v:∀y∈op.operands,∀b,(∃j,rd env y=.lp b j)\/(∃sz k j,rd env y=.le b sz k j)\/rd env y=.ls b->b <fr.length:=fun y I b u=>by
  have h1:=bG (G y I);rcases u with⟨j,u⟩|⟨sz,k,j,u⟩|u
  ·rw[u]at h1;obtain⟨g,h2,_⟩:=kj h1;exact D.lim _ _ h2
  ·rw[u]at h1;obtain⟨_,_,_,h2,_⟩:=l8 h1;exact D.lim _ _ h2
  ·rw[u]at h1;obtain⟨h2,_⟩:=iu h1;exact D.lim _ _ h2
 intro b u;cases op
 case load t y=>
  refine v y (by simp[Op.operands]) b ?_;rcases zj h b u with⟨j,e⟩|⟨sz,k,j,e⟩
  ·exact .inl ⟨j,e⟩
  ·exact .inr (.inl ⟨sz,k,j,e⟩)
 case indexAddr t x i=>exact v x (by simp[Op.operands]) b (.inr (.inr ((u_ h).2 b u)))
 case binOp J O x y Q=>rw[(u7 h).1]at u;cases u
 case call c=>rw[zh h]at u;cases u
 all_goals first
  |(have h:some []=some z:=h;cases h;cases u;done)
  |(have h:none=some z:=h;cases h)
def yr(Q:jT g C ops effs E F B)(h:cq γ κ ops effs n E' F p L listed a w){i:Nat}{o:Oper}(ho:ops[i]?=some o)(hl:listed.getD i true=false)(D:i∉effs){m:Nat}{om:Oper}(h1:i <m)(h2:m <p)(G:m <B)(h3:m∈effs)(J:ops[m]?=some om):∃y v,eD (E m) om.op=some y/\b_ (E i) o.op=some v/\∀b∈v,b∉y:=by
 have z:((Region.before ops).getD m 0).testBit i=false:=by
  rw[<- Bool.not_eq_true];intro z;have:=h.gw (jW z) fun o' I=>h.cu m o' I (h.low m h3 h2);rw[hl]at this;cases this
 have u:=List.all_eq_true.1 (Q.2 m om G J).1 i (List.mem_range.2 h1);unfold qF at u;have hm:bi effs m=true:=by rw[<- Bool.not_eq_false];exact fun u=>dJ.1 u h3
 simp only[J,ho,hm,dJ.2 D,z,Bool.false_or,Bool.and_eq_true]at u;obtain⟨y,v,V,O,Z⟩:=tG u.2;have U:=(Array.getElem?_eq_some_iff.1 J).1;rw[u9 (oV Q (by omega) (by omega) u.1)]at O;exact⟨y,v,V,O,Z⟩
def yu(G:jT g C ops effs E F B)(h:cq γ κ ops effs n E' F p L listed a w)(hp:p<=B){i:Nat}{o:Oper}(ad:i <B)(ho:ops[i]?=some o)(hl:listed.getD i true=false)(v:i∉effs)(I:∀k,eE ops i k->listed.getD k true=true)
  (aw:∀y∈o.op.operands,SR (MA κ.M (F p) L) L w (cE (E i) y) (a.eval y)){x:SV}(hx:step g C (some effs) i (E i) (F i) o.op=some (x,F (i+1),[])):step g C (some effs) i (E i) (F p) o.op=some (x,F p,[]):=by
 have hB:=G.1;have aE:=hx;unfold step at hx⊢;simp only[dJ.2 v]at hx⊢;have ao:=p5 G ad v;rw[ao]at hx
 -- the effects between
 have up:∀(m:Nat) (om:Oper),p<=m->m <i->m∈effs->ops[m]?=some om->∃D J,eD (E m) om.op=some D/\b_ (E i) o.op=some J/\∀b∈J,b∉D:=fun m om h1 h2 h3 io=>by
  have O:((Region.before ops).getD i 0).testBit m=false:=by
   rw[<- Bool.not_eq_true];intro O;have:=I m (jW O);rw[h.l6 m h3 h1 (by omega)]at this;cases this
  have hf:=List.all_eq_true.1 (G.2 i o ad ho).1 m (List.mem_range.2 h2);unfold qF at hf;have hm:bi effs m=true:=by rw[<- Bool.not_eq_false];exact fun hf=>dJ.1 hf h3
  simp only[io,ho,hm,dJ.2 v,O,Bool.false_or,Bool.and_eq_true]at hf;obtain⟨D,J,Z,U,e3⟩:=tG hf.2;rw[Jj (oV G (by omega) (by omega) hf.1)]at Z;exact⟨D,J,Z,U,e3⟩
 have dn:=fun(m:Nat) (om:Oper) (h1:i <m) (h2:m <p) (h3:m∈effs) (h4:ops[m]?=some om)=>yr G h ho hl v h1 h2 (by omega) h3 h4;by_cases V:∃m,m∈effs/\((p<=m/\m <i)\/(i <m/\m <p))
 ·obtain⟨m,af,u⟩:=V;have Q:m <ops.size:=by have:=hp;omega
  obtain⟨_,J,_,z,_⟩:∃D J,eD (E m) (ops[m]).op=some D/\b_ (E i) o.op=some J/\∀b∈J,b∉D:=by
   rcases u with u|u
   ·exact up m _ u.1 u.2 af (Array.getElem?_eq_getElem Q)
   ·exact dn m _ u.1 u.2 af (Array.getElem?_eq_getElem Q)
  cases ag:jE o.op with
  |true=>exact uA ag z hx
  |false=>
  unfold eX at hx⊢;simp only[ag]at hx⊢;obtain⟨ak,_,_⟩:=pW hx;have aq:=vc z ak
  have am:∀b∈J,(F i)[b]?=(F p)[b]?:=fun b O=>by
   rcases Nat.lt_or_ge i p with h1|h1
   ·refine(p7 G i b (aq b O) p (by omega) hp fun m om h2 h3 h4 h5=>?_).symm;have au:m≠i:=fun e=>v (by rw[<- e];exact h4);obtain⟨D,aB,Z,U,e3⟩:=dn m om (by omega) h3 h4 h5;rw[z]at U;cases U;exact⟨D,Z,e3 b O⟩
   ·have an:b <(F p).length:=Gl h.core z aw b O;refine p7 G p b an i h1 (by omega) fun m om h2 h3 h4 h5=>?_;obtain⟨D,aB,Z,U,e3⟩:=up m om h2 h3 h4 h5;rw[z]at U;cases U;exact⟨D,Z,e3 b O⟩
  rw[<- vd z am,ak];rfl
 ·have al:F i=F p:=by
   rcases Nat.lt_or_ge i p with h1|h1
   ·refine(oz G i p (by omega) hp fun m h2 h3 h4=>?_).symm;have au:m≠i:=fun e=>v (by rw[<- e];exact h4);exact V ⟨m,h4,.inr ⟨by omega,h3⟩⟩
   ·exact oz G p i h1 (by omega) fun m h2 h3 h4=>V ⟨m,h4,.inl ⟨h2,h3⟩⟩
  rw[<- al];exact hx
def Jg{rd:Option Nat}{dn:Nat}(hS:c7 g.P γ C)(hok:mC ops effs)(bb:eG n ops.toList=true)(hE:gq g C ops effs E F){Q:Exit->Act->World->Prop}
  (hK:∀L a w,Marks κ w a.defers->a.tmps.size=n->ar γ κ (F ops.size) L w->(∀t,SR (MA κ.M (F ops.size) L) L w (E ops.size t) (a.tmps.getD t undef))->Q .normal a w):
  ∀(I:Nat) (p:Nat) (L:Ls) (listed:Array Bool) (a:Act) (w:World),dR listed ops.size<=I->cq γ κ ops effs n E F p L listed a w->wpAnyIn (Fw rd) dn g.P .any ops Q I listed a w:=by
 have au:∀(i:Nat) (o:Oper),ops[i]?=some o->∀d,o.dst=some d->d <n:=fun i o V d hd=>gD bb (Array.mem_toList_iff.2 (Array.mem_of_getElem? V)) hd
 have fin:∀(p:Nat) (L:Ls) (listed:Array Bool) (a:Act) (w:World),(∀k,k <ops.size->listed.getD k true=true)->cq γ κ ops effs n E F p L listed a w->Q .normal a w:=fun p L listed a w ad h=>by
  have hm:∀m,p<=m->m <ops.size->m∉effs:=fun m h1 h2 h3=>by
   have:=h.l6 m h3 h1 h2;rw[ad m h2]at this;cases this
  have hF:=p6 hE p ops.size h.hp (Nat.le_refl _) hm;refine hK L a w h.hd h.hn (by rw[hF];exact h.core) fun t=>?_;rw[hF]
  exact h.slot hok hE (Nat.le_refl _) (fun k ok D _ _=>(Array.getElem?_eq_some_iff.1 D).1) (fun k ok D _ hl=>by
   have:=ad k (Array.getElem?_eq_some_iff.1 D).1;rw[hl]at this;cases this)
 intro I
 induction I with
 |zero=>
  intro p L listed a w hu h;have ad:=pS (listed:=listed) ops.size (by omega);refine⟨?_,fin p L listed a w ad h⟩
  cases hr:Region.ready .any ops listed with
  |nil=>rfl
  |cons i l=>
   have hm:i∈Region.ready .any ops listed:=by rw[hr];simp
   obtain⟨hl,o,V,_⟩:=mem_ready.1 hm;have:=ad i (Array.getElem?_eq_some_iff.1 V).1;rw[hl]at this;cases this
 |succ I ih=>
  intro p L listed a w hu h;refine⟨fun hr=>fin p L listed a w (qc hok.toDrawB h.hs hr) h,fun i hi=>?_⟩;obtain⟨hl,o,V,ak⟩:=mem_ready.1 hi;have J:=(Array.getElem?_eq_some_iff.1 V).1;have bq:=hE i o V
  have bM:dR (listed.setIfInBounds i true) ops.size<=I:=by
   have:=oo hl ops.size;rw[if_pos J]at this;omega
  have Z:∀k,eE ops i k->listed.getD k true=true:=fun k ha=>h.gw ha fun o' aU=>by rw[V]at aU;cases aU;exact ak
  have al:∀k,cK o k=true->listed.getD k true=true/\k <i:=fun k D=>by
   obtain⟨e,U,hb,rfl⟩:=fQ D;exact⟨fz (ak e U hb),hok.back i o V e U hb⟩
  have aJ:∀t,(.tmp t∈o.op.operands\/∃j oj,ops[j]?=some oj/\oj.dst=some t/\cK o j=true)->SR (MA κ.M (F p) L) L w (E i t) (a.tmps.getD t undef):=fun t ht=>by
   refine h.slot hok hE (by omega) (fun k ok D hd G=>?_) (fun k ok D hd G=>?_)
   ·have O:k≠i:=fun e=>by subst e;rw[hl]at G;cases G
    rcases ht with hy|⟨j,oj,af,an,aw⟩
    ·rcases hok.use i o k ok t V D O hd hy with h1|h1
     ·exact(al k h1).2
     ·obtain⟨e,U,hb,rfl⟩:=fQ h1;have:=fz (h.cu k ok D G e U hb);rw[hl]at this;cases this
    ·by_cases aB:k=j
     ·subst aB;exact(al k aw).2
     ·exact absurd an (hok.dst j oj k ok t af D aB hd)
   ·rcases Nat.lt_or_ge k i with aE|aQ
    ·rcases ht with hy|⟨j,oj,af,an,aw⟩
     ·rcases hok.use i o k ok t V D (by omega) hd hy with h1|h1
      ·have:=(al k h1).1;rw[G]at this;cases this
      ·obtain⟨e,U,hb,rfl⟩:=fQ h1;have:=hok.back k ok D e U hb;omega
     ·by_cases aB:k=j
      ·subst aB;have:=(al k aw).1;rw[G]at this;cases this
      ·exact absurd an (hok.dst j oj k ok t af D aB hd)
    ·exact aQ
  have a7:∀y∈o.op.operands,SR (MA κ.M (F p) L) L w (cE (E i) y) (a.eval y):=fun y hy=>by
   cases y with
   |const v=>exact gA v
   |global g=>exact .dead _
   |func f=>exact .t _ _ (.fn _ [] #[] #[] rfl (fun j x u hx _=>by simp at hx))
   |tmp t=>exact aJ t (.inl hy)
  -- an effect comes up where its turn is
  have aV:i∈effs->F i=F p:=fun z=>by
   have bk:p<=i:=by
    rcases Nat.lt_or_ge i p with h1|h1
    ·have:=h.low i z h1;rw[hl]at this;cases this
    ·exact h1
   refine p6 hE p i bk (by omega) fun m h1 h2 h3=>?_;have:=Z m (hok.eff i z m h3 J h2);rw[h.l6 m h3 h1 (by omega)]at this;cases this
  -- what an operation that is no effect gives,it gives here too
  have am:∀{x},step g C (some effs) i (E i) (F i) o.op=some (x,F (i+1),[])->step g C (some effs) i (E i) (F p) o.op=some (x,(if i∈effs then F (i+1)else F p),[]):=fun{x} hx=>by
   by_cases z:i∈effs
   ·rw[if_pos z,<- aV z];exact hx
   ·rw[if_neg z];exact yu (rX hE) h (by have:=h.hp;omega) J V hl z Z a7 hx
  -- what comes behind this operation,once it is carried out
  have next:∀(v:Value) (w':World) (L':Ls) (x:SV) (f1:Fr),f1=(if i∈effs then F (i+1)else F p)->Tr κ.M (F p) L w f1 L' w' []->ar γ κ f1 L' w'->SR (MA κ.M f1 L') L' w' x v->E (i+1)=aD (E i) o.dst x->wpAnyIn (Fw rd) dn g.P .any ops Q I (listed.setIfInBounds i true) (a.put o.dst v) w':=fun v w' L' x f1 bc hT aq hv ag=>by
   obtain⟨q,hq,bl,be,a6⟩:∃q,f1=F q/\q<=ops.size/\(∀e∈effs,e <q->(listed.setIfInBounds i true).getD e true=true)/\(∀e∈effs,q<=e->e <ops.size->(listed.setIfInBounds i true).getD e true=false):=by
    by_cases z:i∈effs
    ·refine⟨i+1,by rw[bc,if_pos z],J,fun e U aE=>?_,fun e U aQ a1=>?_⟩
     ·by_cases ao:e=i
      ·subst ao;rw[Array.getD_eq_getD_getElem?,Array.getElem?_setIfInBounds_self_of_lt (by rw[h.hs];exact J)];rfl
      ·rw[getD_set_ne true (Ne.symm ao)];exact Z e (hok.eff i z e U J (by omega))
     ·rw[getD_set_ne true (by omega),<- Bool.not_eq_true];intro bj;have:=h.gw (hok.eff e U i z a1 (by omega)) fun o' aU=>h.cu e o' aU bj;rw[hl]at this;cases this
    ·refine⟨p,by rw[bc,if_neg z],h.hp,fun e U aE=>?_,fun e U aQ a1=>?_⟩
     ·have ao:e≠i:=fun e'=>z (by rw[<- e'];exact U);rw[getD_set_ne true (Ne.symm ao)];exact h.low e U aE
     ·have ao:e≠i:=fun e'=>z (by rw[<- e'];exact U);rw[getD_set_ne true (Ne.symm ao)];exact h.l6 e U aQ a1
   subst hq;refine ih q L' _ _ _ bM ⟨?_,?_,?_,bl,be,a6,aq,fun k ok t D hd G=>?_,fun t ht=>?_,fun k ok D G e U a_=>?_⟩
   ·rw[put_defers];exact h.hd.tr h.core hT
   ·rw[dz,h.hn]
   ·rw[Array.size_setIfInBounds];exact h.hs
   ·by_cases O:k=i
    ·subst O;rw[V]at D;cases D;rw[ag,hd,kF (by rw[h.hn];exact au k o V t hd)];show SR _ _ _ (cB _ t x t) v
     rw[fe];exact hv
    ·rw[ec (hok.dst i o k ok t V D O hd)];rw[getD_set_ne true (Ne.symm O)]at G;exact hT.sr (h.done k ok t D hd G)
   ·have bd:o.dst≠some t:=fun hd=>by
     have aE:i <listed.size:=by rw[h.hs];exact J
     have:=ht i o V hd;rw[Array.getD_eq_getD_getElem?,Array.getElem?_setIfInBounds_self_of_lt aE]at this;cases this
    rw[ec bd];refine hT.sr (h.rest t fun k ok D hd=>?_);have O:k≠i:=fun e=>by subst e;rw[V]at D;cases D;exact bd hd
    have:=ht k ok D hd;rw[getD_set_ne true (Ne.symm O)]at this;exact this
   ·by_cases O:k=i
    ·subst O;rw[V]at D;cases D;exact getD_set_true (ak e U a_)
    ·rw[getD_set_ne true (Ne.symm O)]at G;exact getD_set_true (h.cu k ok D G e U a_)
  have h2:=bq.2;unfold wpOpIn;simp only[V]
  cases hg:o.guard with
  |none=>
   rw[hg]at h2;obtain⟨x,aL,ag⟩:=h2;rw[if_pos (by simp[Region.wanted,hg])];exact(fb hS (am aL) κ L a w h.core a7).wpIn fun v w' ⟨L',hT,aq,hv⟩=>next v w' L' x _ rfl hT aq hv ag
  |some gj=>
   obtain⟨j,aY⟩:=gj;rw[hg]at h2;have aw:=hok.guard i o j aY V hg
   have bf:∀W,db ops (E i) j aY=some W->Region.wanted o (yielded ops a.tmps)=W:=fun W hW=>mz (A:=MA κ.M (F p) L) (L:=L) (w:=w) hg hW fun d aM=>by
    cases af:ops[j]? with
    |none=>rw[af]at aM;cases aM
    |some oj=>
     rw[af]at aM;have an:oj.dst=some d:=aM;exact⟨aJ d (.inr ⟨j,oj,af,an,aw⟩),by rw[h.hn];exact au j oj af d an⟩
   rcases h2 with⟨hW,x,aL,ag⟩|⟨hW,bh,ag⟩
   ·rw[bf _ hW,if_pos rfl];exact(fb hS (am aL) κ L a w h.core a7).wpIn fun v w' ⟨L',hT,aq,hv⟩=>next v w' L' (.aN x) _ rfl hT aq (.aN _ _ hv) ag
   ·rw[bf _ hW,if_neg (by simp)];refine⟨fun _ _=>trivial,next undef w L .no (F p) ?_ Tr.refl h.core .no ag⟩;by_cases z:i∈effs
    ·rw[if_pos z,bh,aV z]
    ·rw[if_neg z]
end
def nW{cs:List SV}{i:Nat}(h:i∈SV.fH cs):∃(j:Nat) (c:SV),cs[j]?=some c/\i∈c.refs:=by
 induction cs with
 |nil=>rw[SV.fH]at h;cases h
 |cons d ds u=>
  rw[SV.fH,List.mem_append]at h;rcases h with h|h
  ·exact⟨0,d,rfl,h⟩
  ·obtain⟨j,c,h1,h2⟩:=u h;exact⟨j+1,c,by simpa using h1,h2⟩
def SR.reach{A:Nat->Prop}{L:Ls}{w:World}{x:SV}{v:Value}(h:SR A L w x v):∀i∈x.refs,∃u,L i=some u:=by
 induction h with
 |t=>intro i y;rw[SV.refs]at y;cases y
 |nil=>intro i y;rw[SV.refs]at y;cases y
 |tc=>intro i y;rw[SV.refs]at y;cases y
 |nn=>intro i y;rw[SV.refs]at y;cases y
 |lp k j g h=>
   intro i y;rw[SV.refs]at y;obtain rfl:i=k:=by simpa using y
   exact⟨_,h⟩
 |ls k v h Q=>
   intro i y;rw[SV.refs]at y;obtain rfl:i=k:=by simpa using y
   exact⟨_,h⟩
 |lv k sz a n b m c h=>
   intro i y;rw[SV.refs]at y;obtain rfl:i=k:=by simpa using y
   exact⟨_,h⟩
 |le k sz e j b m c h=>
   intro i y;rw[SV.refs]at y;obtain rfl:i=k:=by simpa using y
   exact⟨_,h⟩
 |lm k r h=>
   intro i y;rw[SV.refs]at y;obtain rfl:i=k:=by simpa using y
   exact⟨_,h⟩
 |lr k p e b n c t h U=>
  intro i y;rw[SV.refs]at y;obtain rfl:i=k:=by simpa using y
  exact⟨_,h⟩
 |lo k p t v h U Q=>
  intro i y;rw[SV.refs]at y;obtain rfl:i=k:=by simpa using y
  exact⟨_,h⟩
 |agg G D I J z=>
  intro i y;rw[SV.refs]at y;obtain⟨j,c,h1,h2⟩:=nW y;exact z j c D[j]! h1 (by rw[Array.getElem!_eq_getD,Array.getD_eq_getD_getElem?];have:=aC h1;rw[Array.getElem?_eq_getElem (by omega)];rfl) i h2
 |aL G D I J z=>
  intro i y;rw[SV.refs]at y;obtain⟨j,c,h1,h2⟩:=nW y;exact z j c D[j]! h1 (by rw[Array.getElem!_eq_getD,Array.getD_eq_getD_getElem?];have:=aC h1;rw[Array.getElem?_eq_getElem (by omega)];rfl) i h2
 |fn f G O D I J z=>
  intro i y;rw[SV.refs]at y;obtain⟨j,c,h1,h2⟩:=nW y;exact z j c (O++D)[j]! h1 (by rw[Array.getElem!_eq_getD,Array.getD_eq_getD_getElem?];have:=aC h1;rw[Array.getElem?_eq_getElem (by omega)];rfl) i h2
 |aN x v h z=>intro i y;rw[SV.refs]at y;exact z i y
 |no=>intro i y;rw[SV.refs]at y;cases y
 |dead=>intro i y;rw[SV.refs]at y;cases y
mutual
theorem SV.r7{σ:Nat->Option Nat}:∀x:SV,(∀i∈x.refs,σ i=some i)->x.sub σ=x
 | .t x,_=>by rw[SV.sub]
 | .nil,_=>by rw[SV.sub]
 | .tc es,_=>by rw[SV.sub]
 | .nn es,_=>by rw[SV.sub]
 | .lp i j,h=>by rw[SV.sub,h i (by rw[SV.refs];simp)]
 | .ls i,h=>by rw[SV.sub,h i (by rw[SV.refs];simp)]
 | .lv i sz a n,h=>by rw[SV.sub,h i (by rw[SV.refs];simp)]
 | .le i sz k j,h=>by rw[SV.sub,h i (by rw[SV.refs];simp)]
 | .lm i,h=>by rw[SV.sub,h i (by rw[SV.refs];simp)]
 | .lo i p,h=>by rw[SV.sub,h i (by rw[SV.refs];simp)]
 | .lr i p k,h=>by rw[SV.sub,h i (by rw[SV.refs];simp)]
 | .agg v,h=>by rw[SV.sub,SV.ln v fun i u=>h i (by rw[SV.refs];exact u)]
 | .aL v,h=>by rw[SV.sub,SV.ln v fun i u=>h i (by rw[SV.refs];exact u)]
 | .fn f y v,h=>by rw[SV.sub,SV.ln v fun i u=>h i (by rw[SV.refs];exact u)]
 | .aN s,h=>by rw[SV.sub,SV.r7 s fun i u=>h i (by rw[SV.refs];exact u)]
 | .no,_=>by rw[SV.sub]
 | .dead,_=>by rw[SV.sub]
theorem SV.ln{σ:Nat->Option Nat}:∀cs:List SV,(∀i∈SV.fH cs,σ i=some i)->SV.ca σ cs=cs
 |[],_=>by rw[SV.ca]
 |c::cs,h=>by rw[SV.ca,SV.r7 c fun i u=>h i (by rw[SV.fH];simp[u]),SV.ln cs fun i u=>h i (by rw[SV.fH];simp[u])]
end
def ww{σ:Nat->Option Nat}(b:Lb)(h:∀i∈b.refs,σ i=some i):fM σ b b:=by
 cases b with
 |box v T u=>exact⟨id,rfl,(SV.ln u h).symm⟩
 |row=>exact⟨id,rfl,rfl⟩
 |map v ks y=>exact⟨id,rfl,(SV.ln y h).symm⟩
 |own=>exact⟨id,rfl⟩
def ar.inside{γ:Glob}{κ:Ctx}{fr:Fr}{L:Ls}{w:World}(J:ar γ κ fr L w){k:Nat}{D:Lb}(hk:fr[k]?=some D):∀i∈D.refs,i <fr.length:=by
 intro i z;have h:=J.blk k D hk
 cases D with
 |box V T cs=>
  obtain⟨g,Z,_,_,h3,h4⟩:=h;obtain⟨j,c,y,I⟩:=nW z;have U:=aC y;obtain⟨u,O⟩:=(h4 j c Z[j] y (Array.getElem?_eq_getElem (by omega))).reach i I;exact J.lim _ _ O
 |row=>cases z
 |own=>cases z
 |map V ks vs=>
  obtain⟨r,v,G,_,_,_,h4,_,I,_⟩:=h;obtain⟨j,c,y,Q⟩:=nW z;have U:=aC y;obtain⟨u,O⟩:=(I j c v[j] y (Array.getElem?_eq_getElem (by omega))).reach i Q;exact J.lim _ _ O
def Bm{g:Cfg}{C:CallF}{env:Env}{fr fr':Fr}{T:Nat}{x:SV}{ks:List Nat}(h:bJ g C env fr (.alloc T)=some (x,fr',ks)):∃G,x=.lp fr.length 0/\fr'=fr++[G]/\ks=[]/\∀(v:Env) (u:Fr),bJ g C v u (.alloc T)=some (.lp u.length 0,u++[G],[]):=by
 have D:∀(env:Env) (fr:Fr),bJ g C env fr (.alloc T)=match kK g.P T with|some z=>some (.lp fr.length 0,fr++[.box false T z],[])|none=>none:=fun env fr=>rfl
 rw[D]at h
 cases y:kK g.P T with
 |none=>rw[y]at h;cases h
 |some z=>
  rw[y]at h;cases h;exact⟨.box false T z,rfl,rfl,rfl,fun v u=>by rw[D,y]⟩
def H5{P:Program}{t i j:Nat}{v x:SV}{fr fr':Fr}{ks:List Nat}(h:fW P fr t (.lp i j) v=some (x,fr',ks)):∃G lb',fr[i]?=some G/\fr'=fr.set i lb'/\x=.dead/\ks=[]/\∀(u:Fr) (z:Nat),u[z]?=some G->fW P u t (.lp z j) v=some (.dead,u.set z lb',[]):=by
 unfold fW at h;split at h
 ·cases h
 ·rename_i e n J;split at h
  ·cases h
  ·rename_i y;simp only at h;split at h
   ·rename_i T O I;split at h
    ·rename_i D;cases h;refine⟨_,_,I,rfl,rfl,rfl,fun u z h2=>?_⟩;unfold fW;simp only[J,y,h2,D]
    ·cases h
   ·cases h
def C5{α:Type}{l:List α}{k:Nat}{x:α}(h:l[k]?=some x):l.drop k=x::l.drop (k+1):=by
 obtain⟨u,v⟩:=List.getElem?_eq_some_iff.1 h;rw[List.drop_eq_getElem_cons u,v]
def kE:List Nat->Nat->Nat
 |[],_=>0
 |x::l,k=>if x=k then 0 else kE l k+1
theorem zb{k:Nat}:∀{l:List Nat},k∈l->l[kE l k]?=some k
 |x::l,h=>by
  unfold kE;split
  ·rename_i e;rw[e];rfl
  ·rename_i e;rw[List.getElem?_cons_succ];exact zb ((List.mem_cons.1 h).resolve_left (Ne.symm e))
def D3{N n i:Nat}:bi ((List.range n).map (N+·)) i=true↔N<=i/\i <N+n:=by
 rw[j8,List.mem_map];constructor
 ·rintro⟨k,u,rfl⟩;have:=List.mem_range.1 u;omega
 ·rintro⟨h1,h2⟩;exact⟨i - N,List.mem_range.2 (by omega),by omega⟩
def bF(ops:Array Oper)(i:Nat):Nat:=match ops[i]? with
 |some o=>match o.dst with
  |some d=>d
  |none=>0
 |none=>0
structure jg (ops:Array Oper) (N m:Nat):Prop extends DrawB ops where
 size:ops.size=N+(m+m)
 pr:∀k,k <m->∃(oa os:Oper) (T S:Nat) (x:Operand),ops[N+k]?=some oa/\ops[N+m+k]?=some os/\oa.dst=some (bF ops (N+k))/\oa.op=.alloc T/\oa.guard=none/\os.dst=none/\os.op=.store S (.tmp (bF ops (N+k))) x/\os.guard=none/\cK os (N+k)=true/\x≠.tmp (bF ops (N+k))/\∀(j:Nat) (o:Oper),ops[j]?=some o->j≠N+m+k->.tmp (bF ops (N+k))∉o.op.operands
def C2{ops:Array Oper}{effs:List Nat}(h:qu ops effs=true):∃N m,effs=(List.range (m+m)).map (N+·)/\(∃r,effs=N::r)/\jg ops N m:=by
 unfold qu at h;split at h
 ·cases h
 ·rename_i N r;simp only[Bool.and_eq_true]at h;obtain⟨⟨⟨⟨h1,h2⟩,h3⟩,h4⟩,h5⟩:=h;generalize hm:(N::r).length/2=m at*
  have h3:(N::r).length=m+m:=by simpa using h3
  refine⟨N,m,by rw[h3]at h4;simpa using h4,⟨r,rfl⟩,{tK h1 with size:=by rw[h3]at h2;simpa using h2,pr:=fun k hk=>?_}⟩;have u:=List.all_eq_true.1 h5 k (List.mem_range.2 hk);unfold AN at u;split at u
  ·rename_i oa os I hs;split at u
   ·rename_i d T S y x G h8 h9;simp only[Bool.and_eq_true]at u;obtain⟨⟨⟨⟨⟨⟨Q,U⟩,V⟩,Z⟩,g5⟩,g6⟩,g7⟩:=u;have hd:y=d:=(Nat.eq_of_beq_eq_true Q).symm;subst hd;have D:bF ops (N+k)=y:=by unfold bF;rw[I];simp only[G]
    rw[D];refine⟨oa,os,T,S,x,I,hs,G,h8,by simpa using U,by simpa using Z,h9,by simpa using V,g5,fun e=>?_,fun j o J hj v=>?_⟩
    ·subst e;simp at g6
    ·have z:=List.all_eq_true.1 g7 j (List.mem_range.2 (Array.getElem?_eq_some_iff.1 J).1);rw[J]at z;have O:Nat.beq j (N+m+k)=false:=by rw[<- Bool.not_eq_true,Nat.beq_eq];exact hj
     simp only[O,Bool.false_or,Bool.not_eq_true']at z
     exact dJ.1 z (by
      unfold tmpsOf;rw[List.mem_filterMap];exact⟨.tmp y,Array.mem_toList_iff.2 v,rfl⟩)
   ·cases u
  ·cases u
section
variable {g:Cfg} {γ:Glob} {κ:Ctx} {C:CallF} {ops:Array Oper} {effs:List Nat} {n N m:Nat} {E:Nat->Env} {F:Nat->Fr}
def Al(g:Cfg)(C:CallF)(ops:Array Oper)(i:Nat)(u:Lb):Prop:=∀o,ops[i]?=some o->∀(env:Env) (fr:Fr),bJ g C env fr o.op=some (.lp fr.length 0,fr++[u],[])
def St(g:Cfg)(C:CallF)(ops:Array Oper)(E:Nat->Env)(i:Nat)(u v:Lb):Prop:=∀(o:Oper) (S d:Nat) (x:Operand),ops[i]?=some o->o.op=.store S (.tmp d) x->∀(env:Env) (fr:Fr) (j:Nat),rd env (.tmp d)=.lp j 0->rd env x=rd (E i) x->fr[j]?=some u->bJ g C env fr o.op=some (.dead,fr.set j v,[])
def Ap{i:Nat}{o:Oper}{e u:Env}{f v:Fr}(h:ji g C effs ops i o e f u v)(hi:bi effs i=true)(hg:o.guard=none):∃x,bJ g C e f o.op=some (x,v,[])/\u=aD e o.dst x:=by
 obtain⟨_,h⟩:=h;rw[hg]at h;obtain⟨x,h1,h2⟩:=h;unfold step at h1;simp only[hi]at h1;exact⟨x,h1,h2⟩
def jg.CW(H:jg ops N m){j k:Nat}(hj:j <m)(hk:k <m)(h:bF ops (N+j)=bF ops (N+k)):j=k:=by
 obtain⟨D,_,_,_,_,u,_,v,_⟩:=H.pr j hj;obtain⟨G,_,_,_,_,y,_,z,_⟩:=H.pr k hk;by_cases e:N+k=N+j
 ·omega
 ·exact absurd (h ▸ v) (H.dst (N+j) D (N+k) G _ u y e z)
theorem AG(H:jg ops N m)(z:gq g C ops effs E F)(u:∀i,bi effs i=true↔N<=i/\i <N+(m+m)):∀k,k<=m->∃B:List Lb,B.length=k/\F (N+k)=F 0++B/\∀(q:Nat) (y:Lb),B[q]?=some y->Al g C ops (N+q) y/\E (N+q+1) (bF ops (N+q))=.lp ((F 0).length+q) 0
 |0,_=>⟨[],rfl,by
   have:=p6 z 0 (N+0) (Nat.zero_le _) (by rw[H.size];omega) fun i _ hi he=>by
    have:=(u i).1 (j8.2 he);omega
   rw[this];simp,fun q y h=>by simp at h⟩
 |k+1,hk=>by
  obtain⟨B,h1,h2,h3⟩:=AG H z u k (by omega);obtain⟨oa,_,T,_,_,I,_,U,J,V,_⟩:=H.pr k (by omega);obtain⟨x,O,Z⟩:=Ap (z (N+k) oa I) ((u (N+k)).2 ⟨by omega,by omega⟩) V;rw[J]at O;obtain⟨y,rfl,c2,_,c4⟩:=Bm O;refine⟨B++[y],by simp[h1],by rw[show N+(k+1)=N+k+1 by omega,c2,h2,List.append_assoc],fun q G v=>?_⟩;rcases Nat.lt_or_ge q k with af|ad
  ·rw[List.getElem?_append_left (by omega)]at v;exact h3 q G v
  ·have D:=aC v;obtain rfl:q=k:=by simp at D;omega
   rw[List.getElem?_append_right (by omega),h1,Nat.sub_self]at v;cases v;refine⟨fun o Q env fr=>?_,?_⟩
   ·rw[I]at Q;cases Q;rw[J];exact c4 env fr
   ·rw[Z,U,h2];show cB _ _ _ _=_
    rw[fe];simp[h1]
theorem AH(H:jg ops N m)(U:gq g C ops effs E F)(J:∀i,bi effs i=true↔N<=i/\i <N+(m+m)){B0:List Lb}(hB:B0.length=m)(hF:F (N+m)=F 0++B0)(hD:∀(q:Nat) (lb:Lb),B0[q]?=some lb->E (N+q+1) (bF ops (N+q))=.lp ((F 0).length+q) 0):
  ∀k,k<=m->∃B1:List Lb,B1.length=k/\F (N+m+k)=F 0++(B1++B0.drop k)/\∀(q:Nat) (v D:Lb),B0[q]?=some v->B1[q]?=some D->St g C ops E (N+m+q) v D
 |0,_=>⟨[],rfl,by rw[Nat.add_zero,hF];simp,fun q v D _ h=>by simp at h⟩
 |k+1,hk=>by
  obtain⟨B1,h1,h2,h3⟩:=AH H U J hB hF hD k (by omega);obtain⟨oa,os,T,S,x,a1,s1,a2,a3,a4,s2,s3,s4,s5,s6,s7⟩:=H.pr k (by omega);obtain⟨y,I,b2⟩:=Ap (U (N+m+k) os s1) ((J (N+m+k)).2 ⟨by omega,by omega⟩) s4;obtain⟨v,u⟩:=av (xs:=B0) (k:=k) (by omega)
  have af:rd (E (N+m+k)) (.tmp (bF ops (N+k)))=.lp ((F 0).length+k) 0:=by
   have e1:E (N+m+k) (bF ops (N+k))=.lp ((F 0).length+k) 0:=by
    rw[lC U (bF ops (N+k)) (N+k+1) (N+m+k) (by omega) (by rw[H.size];omega) fun j o hj _ Q V=>H.dst j o (N+k) oa _ Q a1 (by omega) a2 V];exact hD k v u
   show un (E (N+m+k) (bF ops (N+k)))=_
   rw[e1];rfl
  rw[s3]at I;have I:fW g.P (F (N+m+k)) S (rd (E (N+m+k)) (.tmp (bF ops (N+k)))) (rd (E (N+m+k)) x)=some (y,F (N+m+k+1),[]):=I;rw[af]at I;obtain⟨lb,D,c1,c2,rfl,_,c3⟩:=H5 I
  have Z:(F (N+m+k))[(F 0).length+k]?=B0[k]?:=by
   rw[h2,List.getElem?_append_right (by omega),List.getElem?_append_right (by omega),List.getElem?_drop];congr 1;omega
  rw[Z,u]at c1;cases c1;refine⟨B1++[D],by simp[h1],?_,fun q l0 l1 G z=>?_⟩
  ·rw[show N+m+(k+1)=N+m+k+1 by omega,c2,h2];have V:B0.drop k=v::B0.drop (k+1):=C5 u;rw[V,List.set_append_right _ _ (by omega),List.set_append_right _ _ (by omega),List.append_assoc];congr 2;rw[show(F 0).length+k - (F 0).length - B1.length=0 by omega];rfl
  ·rcases Nat.lt_or_ge q k with ak|ag
   ·rw[List.getElem?_append_left (by omega)]at z;exact h3 q l0 l1 G z
   ·have ad:=aC z;obtain rfl:q=k:=by simp at ad;omega
    rw[List.getElem?_append_right (by omega),h1,Nat.sub_self]at z;cases z;rw[u]at G;cases G;intro o S' d' x' Q O env fr j r1 r2 r3;rw[s1]at Q;cases Q;rw[s3]at O;cases O;rw[s3];show fW g.P fr S (rd env (.tmp (bF ops (N+q)))) (rd env x)=_
    rw[r1,r2];exact c3 fr j r3
def gB(B:List Lb)(k:Nat):Lb:=(B[k]?).getD (.box true 0 [])
def ic(N m:Nat)(B0 B1:List Lb)(listed:Array Bool)(k:Nat):Lb:=match listed.getD (N+m+k) true with
 |true=>gB B1 k
 |false=>gB B0 k
def Gf(fr0:Fr)(N m:Nat)(B0 B1:List Lb)(listed:Array Bool)(pend:List Nat):Fr:=fr0++pend.map (ic N m B0 B1 listed)
structure iJ (γ:Glob) (κ:Ctx) (ops:Array Oper) (N m n:Nat) (E:Nat->Env) (fr0:Fr) (B0 B1:List Lb) (pend:List Nat) (L:Ls) (listed:Array Bool) (a:Act) (w:World):Prop where
 hd:Marks κ w a.defers
 hn:a.tmps.size=n
 hs:listed.size=ops.size
 nd:pend.Nodup
 mem:∀k,k∈pend↔k <m/\listed.getD (N+k) true=true
 core:ar γ κ (Gf fr0 N m B0 B1 listed pend) L w
 ptr:∀p k,pend[p]?=some k->SR (MA κ.M (Gf fr0 N m B0 B1 listed pend) L) L w (.lp (fr0.length+p) 0) (a.tmps.getD (bF ops (N+k)) undef)
 done:∀(i:Nat) (o:Oper) (t:Nat),i <N->ops[i]?=some o->o.dst=some t->listed.getD i true=true->SR (MA κ.M (Gf fr0 N m B0 B1 listed pend) L) L w (E (i+1) t) (a.tmps.getD t undef)
 rest:∀(t:Nat),(∀k,k <m->t≠bF ops (N+k))->(∀(i:Nat) (o:Oper),i <N->ops[i]?=some o->o.dst=some t->listed.getD i true=false)->SR (MA κ.M (Gf fr0 N m B0 B1 listed pend) L) L w (E 0 t) (a.tmps.getD t undef)
 cu:∀(k:Nat) (o:Oper),ops[k]?=some o->listed.getD k true=true->∀e∈o.after,Region.binds .any e=true->listed.getD e.on false=true
variable {fr0:Fr} {B0 B1:List Lb} {pend:List Nat} {L:Ls} {listed:Array Bool} {a:Act} {w:World}
def iJ.start(H:jg ops N m)(hd:Marks κ w a.defers)(hn:a.tmps.size=n)(z:ar γ κ fr0 L w)(D:∀t,SR (MA κ.M fr0 L) L w (E 0 t) (a.tmps.getD t undef)):iJ γ κ ops N m n E fr0 B0 B1 [] L (Array.replicate ops.size false) a w where
 hd:=hd
 hn:=hn
 hs:=by simp
 nd:=List.nodup_nil
 mem:=fun k=>by
  constructor
  ·intro h;cases h
  ·rintro⟨v,h⟩;rw[Array.getD_eq_getD_getElem?,Array.getElem?_replicate,if_pos (by rw[H.size];omega)]at h;cases h
 core:=by unfold Gf;simpa using z
 ptr:=fun p k h=>by simp at h
 done:=fun k o t _ y _ u=>by
  have v:=(Array.getElem?_eq_some_iff.1 y).1;rw[Array.getD_eq_getD_getElem?,Array.getElem?_replicate,if_pos v]at u;cases u
 rest:=fun t _ _=>by unfold Gf;simpa using D t
 cu:=fun k o y u=>by
  have v:=(Array.getElem?_eq_some_iff.1 y).1;rw[Array.getD_eq_getD_getElem?,Array.getElem?_replicate,if_pos v]at u;cases u
def iJ.gw(h:iJ γ κ ops N m n E fr0 B0 B1 pend L listed a w){i k:Nat}(ha:eE ops i k):(∀(o:Oper),ops[i]?=some o->∀e∈o.after,Region.binds .any e=true->listed.getD e.on false=true)->listed.getD k true=true:=by
 induction ha with
 |one i o e z v u=>intro y;exact fz (y o z e v u)
 |more i k o e z v u ha G=>
  intro y;have h1:=fz (y o z e v u);exact G fun I D=>h.cu e.on I D h1
def A2(H:jg ops N m){t:Nat}(ht:∀k,k <m->t≠bF ops (N+k)){i:Nat}{o:Oper}(ho:ops[i]?=some o)(hd:o.dst=some t):i <N:=by
 rcases Nat.lt_or_ge i N with h|h
 ·exact h
 ·have D:=(Array.getElem?_eq_some_iff.1 ho).1;rw[H.size]at D;rcases Nat.lt_or_ge i (N+m)with h1|h1
  ·obtain⟨G,_,_,_,_,v,_,u,_⟩:=H.pr (i - N) (by omega);rw[show N+(i - N)=i by omega,ho]at v;cases v;rw[show N+(i - N)=i by omega]at u;rw[hd]at u;cases u;exact absurd (show bF ops i=bF ops (N+(i - N)) by rw[show N+(i - N)=i by omega]) (ht (i - N) (by omega))
  ·obtain⟨_,I,_,_,_,_,y,_,_,_,z,_⟩:=H.pr (i - N - m) (by omega);rw[show N+m+(i - N - m)=i by omega,ho]at y;cases y;rw[hd]at z;cases z
def iJ.slot(H:jg ops N m)(J:gq g C ops effs E F)(h:iJ γ κ ops N m n E fr0 B0 B1 pend L listed a w){i t:Nat}(ht:∀k,k <m->t≠bF ops (N+k))(hi:i<=ops.size)
  (h1:∀(k:Nat) (ok:Oper),ops[k]?=some ok->ok.dst=some t->listed.getD k true=true->k <i)(h2:∀(k:Nat) (ok:Oper),ops[k]?=some ok->ok.dst=some t->listed.getD k true=false->i<=k):SR (MA κ.M (Gf fr0 N m B0 B1 listed pend) L) L w (E i t) (a.tmps.getD t undef):=by
 by_cases y:∃(k:Nat) (ok:Oper),ops[k]?=some ok/\ok.dst=some t/\listed.getD k true=true
 ·obtain⟨k,ok,v,u,D⟩:=y;have G:=h1 k ok v u D;rw[lC J t (k+1) i (by omega) hi fun q om O Q I=>H.dst q om k ok t I v (by omega) u];exact h.done k ok t (A2 H ht v u) v u D
 ·have z:∀(k:Nat) (o:Oper),ops[k]?=some o->o.dst=some t->listed.getD k true=false:=fun k o v u=>by
   rw[<- Bool.not_eq_true];exact fun D=>y ⟨k,o,v,u,D⟩
  rw[lC J t 0 i (Nat.zero_le _) hi fun k o _ G v u=>by have:=h2 k o v u (z k o v u);omega];exact h.rest t ht fun i o _ v u=>z i o v u
def sT:(Gf fr0 N m B0 B1 listed pend).length=fr0.length+pend.length:=by unfold Gf;simp
def mE{i:Nat}(hi:i <fr0.length):(Gf fr0 N m B0 B1 listed pend)[i]?=fr0[i]?:=by unfold Gf;rw[List.getElem?_append_left hi]
def oA{p:Nat}:(Gf fr0 N m B0 B1 listed pend)[fr0.length+p]?=(pend[p]?).map (ic N m B0 B1 listed):=by
 unfold Gf;rw[List.getElem?_append_right (by omega),show fr0.length+p - fr0.length=p by omega,List.getElem?_map]
def iJ.fin(H:jg ops N m)(hE:gq g C ops effs E F)(h:iJ γ κ ops N m n E fr0 B0 B1 pend L listed a w)(Q:∀k,k <ops.size->listed.getD k true=true)(an:B1.length=m)(hF:F ops.size=fr0++B1)(hD:∀q,q <m->E ops.size (bF ops (N+q))=.lp (fr0.length+q) 0)
  (aq:∀b∈B1,th b=true)(aw:∀(i:Nat) (o:Oper) (t:Nat),i <N->ops[i]?=some o->o.dst=some t->∀r∈(E ops.size t).refs,r <fr0.length)(h0:∀t,∀r∈(E 0 t).refs,r <fr0.length)(hfr:∀b∈fr0,∀r∈b.refs,r <fr0.length)(hκ:∀j v,κ.L j=some v->j <fr0.length):
  ∃L',ar γ κ (F ops.size) L' w/\∀t,SR (MA κ.M (F ops.size) L') L' w (E ops.size t) (a.tmps.getD t undef):=by
 have ad:∀k,k∈pend↔k <m:=fun k=>by
  rw[h.mem k];exact⟨fun q=>q.1,fun q=>⟨q,Q _ (by rw[H.size];omega)⟩⟩
 have au:∀k,k <m->∃b,B1[k]?=some b/\ic N m B0 B1 listed k=b:=fun k u=>by
  obtain⟨b,hb⟩:=av (xs:=B1) (k:=k) (by omega);refine⟨b,hb,?_⟩;unfold ic;rw[Q _ (by rw[H.size];omega)];show gB B1 k=b
  unfold gB;rw[hb];rfl
 have I:∀k,k <m->pend[kE pend k]?=some k:=fun k u=>zb ((ad k).2 u);have al:∀p k,pend[p]?=some k->kE pend k=p:=fun p k hp=>rv h.nd (I k ((ad k).1 (List.mem_of_getElem? hp))) hp;have U:(fr0++B1).length=fr0.length+m:=by simp[an]
 let σ:Nat->Option Nat:=fun i=>if i <fr0.length then some i else(pend[i - fr0.length]?).map (fr0.length+·)
 let π:Nat->Nat:=fun j=>if j <fr0.length then j else fr0.length+kE pend (j - fr0.length)
 have af:∀i,i <fr0.length->σ i=some i:=fun i y=>if_pos y
 have am:∀p k,pend[p]?=some k->σ (fr0.length+p)=some (fr0.length+k):=fun p k hp=>by
  show(if _ then _ else _)=_
  rw[if_neg (by omega),show fr0.length+p - fr0.length=p by omega,hp];rfl
 have D:∀i,i <fr0.length->π i=i:=fun i y=>if_pos y
 have J:∀k,π (fr0.length+k)=fr0.length+kE pend k:=fun k=>by
  show(if _ then _ else _)=_
  rw[if_neg (by omega),show fr0.length+k - fr0.length=k by omega]
 have split:∀j,j <(fr0++B1).length->j <fr0.length\/∃k,k <m/\j=fr0.length+k:=fun j G=>by
  rw[U]at G;rcases Nat.lt_or_ge j fr0.length with h1|h1
  ·exact .inl h1
  ·exact .inr ⟨j - fr0.length,by omega,by omega⟩
 obtain⟨r1,r2,r3⟩:=h.core.pC (fr0++B1) π σ (fun j k G u e=>by
   rcases split j G with h1|⟨p,hp,rfl⟩<;>rcases split k u with h2|⟨q,hq,rfl⟩
   ·rw[D j h1,D k h2]at e;exact e
   ·rw[D j h1,J q]at e;omega
   ·rw[D k h2,J p]at e;omega
   ·rw[J p,J q]at e;have O:=I p hp;have e2:=I q hq;rw[show kE pend p=kE pend q by omega,e2]at O;cases O;rfl) (fun i j v y hv=>by
   have aB:=h.core.lim i v hv;rw[sT]at aB;rcases Nat.lt_or_ge i fr0.length with h1|h1
   ·rw[af i h1]at y;cases y;exact⟨by rw[U];omega,D i h1⟩
   ·obtain⟨p,rfl⟩:∃p,i=fr0.length+p:=⟨i - fr0.length,by omega⟩;obtain⟨k,u⟩:=av (xs:=pend) (k:=p) (by omega);rw[am p k u]at y;cases y;have aE:=(ad k).1 (List.mem_of_getElem? u);exact⟨by rw[U];omega,by rw[J,al p k u]⟩) (fun j z G=>by
   rcases split j (aC G)with h1|⟨k,u,rfl⟩
   ·rw[List.getElem?_append_left h1]at G;rw[D j h1];exact⟨z,by rw[mE h1];exact G,ww z fun i y=>af i (hfr z (List.mem_of_getElem? G) i y)⟩
   ·rw[List.getElem?_append_right (by omega),show fr0.length+k - fr0.length=k by omega]at G;obtain⟨b,ag,ao⟩:=au k u;rw[ag]at G;cases G;rw[J];refine⟨z,by rw[oA,I k u,Option.map_some,ao],ww z fun i y=>?_⟩;have Z:=aq z (List.mem_of_getElem? ag)
    cases z with
    |box ro T cs=>
     have y:i∈SV.fH cs:=y;obtain⟨q,c,hq,hc⟩:=nW y;have h5:=List.all_eq_true.1 Z c (List.mem_of_getElem? hq);cases c <;>first|(cases h5;done)|(rw[SV.refs]at hc;cases hc)
    |row=>cases y
    |own=>cases y
    |map=>cases Z) (fun j v G=>by
   have V:=hκ j v G;obtain⟨lb,O,_⟩:=h.core.hand j v G;rw[mE V]at O;exact⟨lb,lb,by rw[mE V];exact O,by rw[List.getElem?_append_left V];exact O,D j V,id⟩)
 rw[hF];refine⟨_,r1,fun t=>?_⟩;have conv:∀{x:SV} {v:Value},SR (MA κ.M (Gf fr0 N m B0 B1 listed pend) L) L w x v->SR (MA κ.M (fr0++B1) (fO (fr0++B1).length L π)) (fO (fr0++B1).length L π) w (x.sub σ) v:=fun hx=>SR.sub σ (Nat.le_refl _) (fun b _ hb=>⟨r2 b hb,rfl⟩) r3 hx
 by_cases ak:∃k,k <m/\t=bF ops (N+k)
 ·obtain⟨k,u,rfl⟩:=ak;have O:=conv (h.ptr _ k (I k u))
  rw[hD k u];rw[SV.sub,am _ k (I k u)]at O;exact O
 ·have ht:∀k,k <m->t≠bF ops (N+k):=fun k u e=>ak ⟨k,u,e⟩
  have O:=h.slot H hE (i:=ops.size) ht (Nat.le_refl _) (fun k ok u _ _=>(Array.getElem?_eq_some_iff.1 u).1) (fun k ok u _ hl=>by
   have:=Q k (Array.getElem?_eq_some_iff.1 u).1;rw[hl]at this;cases this)
  have e2:=conv O
  rw[SV.r7 _ fun i y=>af i ?_]at e2
  ·exact e2
  ·by_cases hw:∃(i:Nat) (o:Oper),i <N/\ops[i]?=some o/\o.dst=some t
   ·obtain⟨q,o,h1,h2,h3⟩:=hw;exact aw q o t h1 h2 h3 i y
   ·rw[lC hE t 0 ops.size (Nat.zero_le _) (Nat.le_refl _) fun k o _ _ u hd=>hw ⟨k,o,A2 H ht u hd,u,hd⟩]at y;exact h0 t i y
def A7{u:Array Bool}(h:∀k∈pend,u.getD (N+m+k) true=listed.getD (N+m+k) true):Gf fr0 N m B0 B1 u pend=Gf fr0 N m B0 B1 listed pend:=by
 unfold Gf;congr 1;refine List.map_congr_left fun k v=>?_;unfold ic;rw[h k v]
def A8{u:Array Bool}{p k:Nat}{b:Lb}(hn:pend.Nodup)(hp:pend[p]?=some k)(hb:ic N m B0 B1 u k=b)(h:∀q∈pend,q≠k->u.getD (N+m+q) true=listed.getD (N+m+q) true):Gf fr0 N m B0 B1 u pend=(Gf fr0 N m B0 B1 listed pend).set (fr0.length+p) b:=by
 have G:=aC hp;refine List.ext_getElem? fun j=>?_;rcases Nat.lt_or_ge j fr0.length with h1|h1
 ·rw[List.getElem?_set_ne (by omega),mE h1,mE h1]
 ·obtain⟨q,rfl⟩:∃q,j=fr0.length+q:=⟨j - fr0.length,by omega⟩;by_cases e:q=p
  ·subst e;rw[List.getElem?_set_self (by rw[sT];omega),oA,hp,Option.map_some,hb]
  ·rw[List.getElem?_set_ne (by omega),oA,oA]
   cases y:pend[q]? with
   |none=>rfl
   |some z=>
    have v:z≠k:=fun D=>by subst D;exact e (rv hn y hp)
    simp only[Option.map_some];unfold ic;rw[h z (List.mem_of_getElem? y) v]
def Jf{dd:Option Nat}{dn:Nat}(hS:c7 g.P γ C)(H:jg ops N m)(bb:∀i,bi effs i=true↔N<=i/\i <N+(m+m))(b3:eG n ops.toList=true)(hE:gq g C ops effs E F)(b0:∀i,i<=N->F i=fr0)
  (eL:B0.length=m)(dq:∀(q:Nat) (lb:Lb),B0[q]?=some lb->Al g C ops (N+q) lb)(eN:B1.length=m)(dI:∀(q:Nat) (Z aQ:Lb),B0[q]?=some Z->B1[q]?=some aQ->St g C ops E (N+m+q) Z aQ){Q:Exit->Act->World->Prop}
  (hK:∀pend L listed a w,(∀k,k <ops.size->listed.getD k true=true)->iJ γ κ ops N m n E fr0 B0 B1 pend L listed a w->Q .normal a w):
  ∀(O:Nat) (pend:List Nat) (L:Ls) (listed:Array Bool) (a:Act) (w:World),dR listed ops.size<=O->iJ γ κ ops N m n E fr0 B0 B1 pend L listed a w->wpAnyIn (Fw dd) dn g.P .any ops Q O listed a w:=by
 have ao:∀(i:Nat) (o:Oper),ops[i]?=some o->∀d,o.dst=some d->d <n:=fun i o G d I=>gD b3 (Array.mem_toList_iff.2 (Array.mem_of_getElem? G)) I;intro O
 induction O with
 |zero=>
  intro pend L listed a w hu h;have bf:=pS (listed:=listed) ops.size (by omega);refine⟨?_,hK pend L listed a w bf h⟩
  cases hr:Region.ready .any ops listed with
  |nil=>rfl
  |cons i l=>
   have hm:i∈Region.ready .any ops listed:=by rw[hr];simp
   obtain⟨hl,o,G,_⟩:=mem_ready.1 hm;have:=bf i (Array.getElem?_eq_some_iff.1 G).1;rw[hl]at this;cases this
 |succ O ih=>
  intro pend L listed a w hu h;refine⟨fun hr=>hK pend L listed a w (qc H.toDrawB h.hs hr) h,fun i hi=>?_⟩;obtain⟨hl,o,G,aq⟩:=mem_ready.1 hi;have bh:=(Array.getElem?_eq_some_iff.1 G).1;have et:=hE i o G
  have bN:dR (listed.setIfInBounds i true) ops.size<=O:=by
   have:=oo hl ops.size;rw[if_pos bh]at this;omega
  have dm:∀k,eE ops i k->listed.getD k true=true:=fun k ha=>h.gw ha fun o' bd=>by rw[G]at bd;cases bd;exact aq
  have ad:∀k,cK o k=true->listed.getD k true=true/\k <i:=fun k D=>by
   obtain⟨e,he,hb,rfl⟩:=fQ D;exact⟨fz (aq e he hb),H.back i o G e he hb⟩
  have aB:∀t,(∀k,k <m->t≠bF ops (N+k))->(.tmp t∈o.op.operands\/∃j oj,ops[j]?=some oj/\oj.dst=some t/\cK o j=true)->SR (MA κ.M (Gf fr0 N m B0 B1 listed pend) L) L w (E i t) (a.tmps.getD t undef):=fun t al ht=>by
   refine h.slot H hE al (by omega) (fun k ok D I J=>?_) (fun k ok D I J=>?_)
   ·have V:k≠i:=fun e=>by subst e;rw[hl]at J;cases J
    rcases ht with hy|⟨j,oj,af,ag,aM⟩
    ·rcases H.use i o k ok t G D V I hy with h1|h1
     ·exact(ad k h1).2
     ·obtain⟨e,he,hb,rfl⟩:=fQ h1;have:=fz (h.cu k ok D J e he hb);rw[hl]at this;cases this
    ·by_cases aU:k=j
     ·subst aU;exact(ad k aM).2
     ·exact absurd ag (H.dst k ok j oj t D af (Ne.symm aU) ag |>fun q=>absurd I q)
   ·rcases Nat.lt_or_ge k i with cf|eb
    ·rcases ht with hy|⟨j,oj,af,ag,aM⟩
     ·rcases H.use i o k ok t G D (by omega) I hy with h1|h1
      ·have:=(ad k h1).1;rw[J]at this;cases this
      ·obtain⟨e,he,hb,rfl⟩:=fQ h1;have:=H.back k ok D e he hb;omega
     ·by_cases aU:k=j
      ·subst aU;have:=(ad k aM).1;rw[J]at this;cases this
      ·exact absurd I (H.dst k ok j oj t D af (Ne.symm aU) ag)
    ·exact eb
  have z:∀j,j≠i->(listed.setIfInBounds i true).getD j true=listed.getD j true:=fun j hj=>getD_set_ne true (Ne.symm hj);have aL:(listed.setIfInBounds i true).getD i true=true:=by rw[Array.getD_eq_getD_getElem?,Array.getElem?_setIfInBounds_self_of_lt (by rw[h.hs];exact bh)];rfl
  have am:∀(k:Nat) (o:Oper),ops[k]?=some o->(listed.setIfInBounds i true).getD k true=true->∀e∈o.after,Region.binds .any e=true->(listed.setIfInBounds i true).getD e.on false=true:=fun k ok D J e he b2=>by
   by_cases V:k=i
   ·subst V;rw[G]at D;cases D;exact getD_set_true (aq e he b2)
   ·rw[z k V]at J;exact getD_set_true (h.cu k ok D J e he b2)
  rcases Nat.lt_or_ge i N with b5|b5
  ·-- an operation ahead of the new variables
   have ca:bi effs i=false:=by rw[<- Bool.not_eq_true,bb];omega
   have en:∀t,.tmp t∈o.op.operands->∀k,k <m->t≠bF ops (N+k):=fun t ht k D e=>by
    obtain⟨_,_,_,_,_,_,_,_,_,_,_,_,_,_,_,hx⟩:=H.pr k D;exact hx i o G (by omega) (e ▸ ht)
   have cl:∀y∈o.op.operands,SR (MA κ.M (Gf fr0 N m B0 B1 listed pend) L) L w (cE (E i) y) (a.eval y):=fun y hy=>by
    cases y with
    |const v=>exact gA v
    |global g=>exact .dead _
    |func f=>exact .t _ _ (.fn _ [] #[] #[] rfl (fun j x u hx _=>by simp at hx))
    |tmp t=>exact aB t (en t hy) (.inl hy)
   have dr:F i=fr0:=b0 i (by omega);have b1:F (i+1)=fr0:=b0 (i+1) (by omega)
   have aJ:∀{x},step g C (some effs) i (E i) (F i) o.op=some (x,F (i+1),[])->step g C (some effs) i (E i) (Gf fr0 N m B0 B1 listed pend) o.op=some (x,Gf fr0 N m B0 B1 listed pend,[]):=fun{x} hx=>by
    rw[dr,b1]at hx
    cases cp:pend with
    |nil=>unfold Gf;simpa using hx
    |cons k0 pr=>
     rw[<- cp];have ej:k0∈pend:=by rw[cp];simp
     obtain⟨cd,cc⟩:=(h.mem k0).1 ej;obtain⟨oa,_,_,_,_,a1,_⟩:=H.pr k0 cd
     have hb:((Region.before ops).getD (N+k0) 0).testBit i=false:=by
      rw[<- Bool.not_eq_true];intro hb;have:=h.gw (jW hb) fun o' bd=>h.cu (N+k0) o' bd cc;rw[hl]at this;cases this
     have hf:=List.all_eq_true.1 (hE (N+k0) oa a1).1 i (List.mem_range.2 (by omega));unfold qF at hf;simp only[a1,G,ca,(bb (N+k0)).2 ⟨by omega,by omega⟩,hb,Bool.false_or,Bool.and_eq_true]at hf;obtain⟨wl,rl,e1,e2,e3⟩:=tG hf.2;rw[u9 (Dk hE (by omega) (by rw[H.size];omega) hf.1)]at e2;have bM:=e2;unfold step at hx⊢;simp only[ca]at hx⊢
     cases ch:jE o.op with
     |true=>exact uA ch bM hx
     |false=>
      unfold eX at hx⊢;simp only[ch]at hx⊢;obtain⟨a7,_,_⟩:=pW hx;have cf:=vc bM a7;rw[<- vd (fr:=fr0) bM fun b hb=>(mE (cf b hb)).symm,a7];rfl
   have next:∀(v:Value) (w':World) (L':Ls) (x:SV),Tr κ.M (Gf fr0 N m B0 B1 listed pend) L w (Gf fr0 N m B0 B1 listed pend) L' w' []->ar γ κ (Gf fr0 N m B0 B1 listed pend) L' w'->SR (MA κ.M (Gf fr0 N m B0 B1 listed pend) L') L' w' x v->E (i+1)=aD (E i) o.dst x->wpAnyIn (Fw dd) dn g.P .any ops Q O (listed.setIfInBounds i true) (a.put o.dst v) w':=fun v w' L' x hT U hv an=>by
    have hG:Gf fr0 N m B0 B1 (listed.setIfInBounds i true) pend=Gf fr0 N m B0 B1 listed pend:=A7 fun k _=>z _ (by omega)
    have eo:∀k,k <m->o.dst≠some (bF ops (N+k)):=fun k D e=>by
     obtain⟨oa,_,_,_,_,a1,_,a2,_⟩:=H.pr k D;exact H.dst i o (N+k) oa _ G a1 (by omega) a2 e
    refine ih pend L' _ _ _ bN ⟨?_,?_,?_,h.nd,fun k=>?_,by rw[hG];exact U,fun p k hp=>?_,fun k ok t bl D I J=>?_,fun t al ht=>?_,am⟩
    ·rw[put_defers];exact h.hd.tr h.core hT
    ·rw[dz,h.hn]
    ·rw[Array.size_setIfInBounds];exact h.hs
    ·rw[h.mem k];constructor
     ·rintro⟨q1,q2⟩;exact⟨q1,by rw[z _ (by omega)];exact q2⟩
     ·rintro⟨q1,q2⟩;exact⟨q1,by rw[z _ (by omega)]at q2;exact q2⟩
    ·rw[hG,ec (eo k ((h.mem k).1 (List.mem_of_getElem? hp)).1)];exact hT.sr (h.ptr p k hp)
    ·rw[hG];by_cases V:k=i
     ·subst V;rw[G]at D;cases D;rw[an,I,kF (by rw[h.hn];exact ao k o G t I)];show SR _ _ _ (cB _ t x t) v
      rw[fe];exact hv
     ·rw[ec (H.dst i o k ok t G D V I)];rw[z k V]at J;exact hT.sr (h.done k ok t bl D I J)
    ·rw[hG]
     have b4:o.dst≠some t:=fun I=>by
      have:=ht i o b5 G I;rw[aL]at this;cases this
     rw[ec b4];refine hT.sr (h.rest t al fun k ok bl D I=>?_);have V:k≠i:=fun e=>by subst e;rw[G]at D;cases D;exact b4 I
     have:=ht k ok bl D I;rw[z k V]at this;exact this
   have h2:=et.2;unfold wpOpIn;simp only[G]
   cases hg:o.guard with
   |none=>
    rw[hg]at h2;obtain⟨x,a6,an⟩:=h2;rw[if_pos (by simp[Region.wanted,hg])];exact(fb hS (aJ a6) κ L a w h.core cl).wpIn fun v w' ⟨L',hT,U,hv⟩=>next v w' L' x hT U hv an
   |some gj=>
    obtain⟨j,bk⟩:=gj;rw[hg]at h2;have aM:=H.guard i o j bk G hg;have eR:=(ad j aM).2
    have c1:∀W,db ops (E i) j bk=some W->Region.wanted o (yielded ops a.tmps)=W:=fun W hW=>mz (A:=MA κ.M (Gf fr0 N m B0 B1 listed pend) L) (L:=L) (w:=w) hg hW fun d a_=>by
     cases af:ops[j]? with
     |none=>rw[af]at a_;cases a_
     |some oj=>
      rw[af]at a_;have ag:oj.dst=some d:=a_;refine⟨aB d (fun k D e=>?_) (.inr ⟨j,oj,af,ag,aM⟩),by rw[h.hn];exact ao j oj af d ag⟩;obtain⟨oa,_,_,_,_,a1,_,a2,_⟩:=H.pr k D;exact H.dst (N+k) oa j oj d a1 af (by omega) ag (e ▸ a2)
    rcases h2 with⟨hW,x,a6,an⟩|⟨hW,ez,an⟩
    ·rw[c1 _ hW,if_pos rfl];exact(fb hS (aJ a6) κ L a w h.core cl).wpIn fun v w' ⟨L',hT,U,hv⟩=>next v w' L' (.aN x) hT U (.aN _ _ hv) an
    ·rw[c1 _ hW,if_neg (by simp)];exact⟨fun _ _=>trivial,next undef w L .no Tr.refl h.core .no an⟩
  ·have e0:=H.size;rcases Nat.lt_or_ge i (N+m)with ed|ed
   ·-- a new variable
    obtain⟨k,rfl⟩:∃k,i=N+k:=⟨i - N,by omega⟩;have aw:k <m:=by omega
    obtain⟨oa,os,T,S,x,a1,s1,a2,a3,a4,s2,s3,s4,s5,s6,s7⟩:=H.pr k aw;rw[G]at a1;cases a1;obtain⟨Z,ak⟩:=av (xs:=B0) (k:=k) (by omega);have dQ:=dq k Z ak o G (E (N+k)) (Gf fr0 N m B0 B1 listed pend)
    have aE:step g C (some effs) (N+k) (E (N+k)) (Gf fr0 N m B0 B1 listed pend) o.op=some (.lp (Gf fr0 N m B0 B1 listed pend).length 0,Gf fr0 N m B0 B1 listed pend++[Z],[]):=by
     unfold step;simp only[(bb (N+k)).2 ⟨by omega,by omega⟩];exact dQ
    have ev:listed.getD (N+m+k) true=false:=by
     rw[<- Bool.not_eq_true];intro ek;obtain⟨e,he,hb,ea⟩:=fQ s5;have:=fz (h.cu (N+m+k) os s1 ek e he hb);rw[ea,hl]at this;cases this
    have bc:k∉pend:=fun D=>by
     have:=((h.mem k).1 D).2;rw[hl]at this;cases this
    have hG:Gf fr0 N m B0 B1 (listed.setIfInBounds (N+k) true) (pend++[k])=Gf fr0 N m B0 B1 listed pend++[Z]:=by
     unfold Gf;rw[List.map_append,<- List.append_assoc];congr 1
     ·congr 1;refine List.map_congr_left fun q _=>?_;unfold ic;rw[z _ (by omega)]
     ·show[ic N m B0 B1 _ k]=[Z]
      unfold ic;rw[z _ (by omega),ev];show[gB B0 k]=_
      unfold gB;rw[ak];rfl
    unfold wpOpIn;simp only[G];rw[if_pos (by simp[Region.wanted,a4])];refine(fb hS aE κ L a w h.core (fun y hy=>by rw[a3]at hy;simp[Op.operands]at hy)).wpIn fun v w' ⟨L',hT,U,hv⟩=>?_;rw[<- hG]at U hv hT;refine ih (pend++[k]) L' _ _ _ bN ⟨?_,?_,?_,?_,fun q=>?_,U,fun p q hp=>?_,fun j oj t au hj I aV=>?_,fun t al ht=>?_,am⟩
    ·rw[put_defers];exact h.hd.tr h.core hT
    ·rw[dz,h.hn]
    ·rw[Array.size_setIfInBounds];exact h.hs
    ·rw[List.nodup_append];refine⟨h.nd,by simp,fun q hq r hr e=>?_⟩;obtain rfl:r=k:=by simpa using hr
     exact bc (e ▸ hq)
    ·rw[List.mem_append,h.mem q];constructor
     ·rintro(⟨q1,q2⟩|q1)
      ·refine⟨q1,?_⟩;by_cases e:q=k
       ·subst e;exact aL
       ·rw[z _ (by omega)];exact q2
      ·obtain rfl:q=k:=by simpa using q1
       exact⟨aw,aL⟩
     ·rintro⟨q1,q2⟩;by_cases e:q=k
      ·exact .inr (by simp[e])
      ·rw[z _ (by omega)]at q2;exact .inl ⟨q1,q2⟩
    ·rcases Nat.lt_or_ge p pend.length with bq|bq
     ·rw[List.getElem?_append_left bq]at hp;have cz:=List.mem_of_getElem? hp;have aY:q≠k:=fun e=>bc (e ▸ cz);rw[ec (a:=a) (by rw[a2];intro e;exact aY (H.CW ((h.mem q).1 cz).1 aw (Option.some.inj e).symm))];exact hT.sr (h.ptr p q hp)
     ·have ct:=aC hp;rw[List.getElem?_append_right bq]at hp;obtain rfl:p=pend.length:=by simp at ct;omega
      rw[Nat.sub_self]at hp;cases hp;rw[a2,kF (by rw[h.hn];exact ao _ o G _ a2),show fr0.length+pend.length=(Gf fr0 N m B0 B1 listed pend).length from sT.symm];exact hv
    ·have aY:o.dst≠some t:=fun e=>H.dst (N+k) o j oj t G hj (by omega) I e;rw[ec aY];rw[z j (by omega)]at aV;exact hT.sr (h.done j oj t au hj I aV)
    ·have aY:o.dst≠some t:=fun e=>by rw[a2]at e;cases e;exact al k aw rfl
     rw[ec aY];refine hT.sr (h.rest t al fun j oj au hj I=>?_);have:=ht j oj au hj I;rw[z j (by omega)]at this;exact this
   ·-- it is written
    obtain⟨k,rfl⟩:∃k,i=N+m+k:=⟨i - N - m,by omega⟩;have aw:k <m:=by omega
    obtain⟨oa,os,T,S,x,a1,s1,a2,a3,a4,s2,s3,s4,s5,s6,s7⟩:=H.pr k aw;rw[G]at s1;cases s1;obtain⟨Z,ak⟩:=av (xs:=B0) (k:=k) (by omega);obtain⟨aQ,bj⟩:=av (xs:=B1) (k:=k) (by omega);have bc:k∈pend:=(h.mem k).2 ⟨aw,(ad _ s5).1⟩;obtain⟨p,hp⟩:=List.getElem?_of_mem bc;have a7:∀t,x=.tmp t->t≠bF ops (N+k):=fun t e1 e2=>s6 (by rw[e1,e2])
    have ey:∀t,x=.tmp t->∀q,q <m->t≠bF ops (N+q):=fun t e1 q hq e2=>by
     by_cases er:q=k
     ·subst er;exact a7 t e1 e2
     ·obtain⟨_,_,_,_,_,_,_,_,_,_,_,_,_,_,_,hx⟩:=H.pr q hq;exact hx (N+m+k) o G (by omega) (by rw[s3,<- e2,e1];simp[Op.operands])
    have bW:rd (cB (E (N+m+k)) (bF ops (N+k)) (.lp (fr0.length+p) 0)) (.tmp (bF ops (N+k)))=.lp (fr0.length+p) 0:=by
     show un (cB _ _ _ _)=_
     rw[fe];rfl
    have be:cE (cB (E (N+m+k)) (bF ops (N+k)) (.lp (fr0.length+p) 0)) x=cE (E (N+m+k)) x:=by
     cases x with
     |tmp t=>show cB _ _ _ t=_;rw[my (a7 t rfl)];rfl
     |_=>rfl
    have dF:(Gf fr0 N m B0 B1 listed pend)[fr0.length+p]?=some Z:=by
     rw[oA,hp,Option.map_some];unfold ic;rw[hl];show some (gB B0 k)=_
     unfold gB;rw[ak];rfl
    have cZ:=dI k Z aQ ak bj o S (bF ops (N+k)) x G s3 (cB (E (N+m+k)) (bF ops (N+k)) (.lp (fr0.length+p) 0)) (Gf fr0 N m B0 B1 listed pend) (fr0.length+p) bW (by unfold rd;rw[be]) dF
    have aE:step g C (some effs) (N+m+k) (cB (E (N+m+k)) (bF ops (N+k)) (.lp (fr0.length+p) 0)) (Gf fr0 N m B0 B1 listed pend) o.op=some (.dead,(Gf fr0 N m B0 B1 listed pend).set (fr0.length+p) aQ,[]):=by
     unfold step;simp only[(bb (N+m+k)).2 ⟨by omega,by omega⟩];exact cZ
    have hG:Gf fr0 N m B0 B1 (listed.setIfInBounds (N+m+k) true) pend=(Gf fr0 N m B0 B1 listed pend).set (fr0.length+p) aQ:=A8 h.nd hp (by
     unfold ic;rw[aL];show gB B1 k=_
     unfold gB;rw[bj];rfl) fun q _ hq=>z _ (by omega)
    unfold wpOpIn;simp only[G];rw[if_pos (by simp[Region.wanted,s4])];refine(fb hS aE κ L a w h.core (fun y hy=>?_)).wpIn fun v w' ⟨L',hT,U,hv⟩=>?_
    ·rw[s3]at hy;have hy:y=.tmp (bF ops (N+k))\/y=x:=by simpa[Op.operands]using hy
     rcases hy with rfl|rfl
     ·show SR _ _ _ (cB _ _ _ _) _
      rw[fe];exact h.ptr p k hp
     ·rw[be]
      cases y with
      |const v=>exact gA v
      |global g=>exact .dead _
      |func f=>exact .t _ _ (.fn _ [] #[] #[] rfl (fun j x u hx _=>by simp at hx))
      |tmp t=>exact aB t (ey t rfl) (.inl (by rw[s3];simp[Op.operands]))
    ·rw[<- hG]at U hv hT;refine ih pend L' _ _ _ bN ⟨?_,?_,?_,h.nd,fun q=>?_,U,fun p' q ep=>?_,fun j oj t au hj I aV=>?_,fun t al ht=>?_,am⟩
     ·rw[put_defers];exact h.hd.tr h.core hT
     ·rw[dz,h.hn]
     ·rw[Array.size_setIfInBounds];exact h.hs
     ·rw[h.mem q];constructor
      ·rintro⟨q1,q2⟩;exact⟨q1,by rw[z _ (by omega)];exact q2⟩
      ·rintro⟨q1,q2⟩;exact⟨q1,by rw[z _ (by omega)]at q2;exact q2⟩
     ·rw[ec (by rw[s2];intro e;cases e)];exact hT.sr (h.ptr p' q ep)
     ·rw[ec (by rw[s2];intro e;cases e)];rw[z j (by omega)]at aV;exact hT.sr (h.done j oj t au hj I aV)
     ·rw[ec (by rw[s2];intro e;cases e)];refine hT.sr (h.rest t al fun j oj au hj I=>?_);have:=ht j oj au hj I;rw[z j (by omega)]at this;exact this
def Gv{al:Option Nat}{dn:Nat}(hS:c7 g.P γ C)(hok:qu ops effs=true)(V:eG n ops.toList=true){env env':Env}{fr fr':Fr}(he:lU g C effs ops env fr=some (env',fr')){Q:Exit->Act->World->Prop}
  (hK:∀L a w,Marks κ w a.defers->a.tmps.size=n->ar γ κ fr' L w->(∀t,SR (MA κ.M fr' L) L w (env' t) (a.tmps.getD t undef))->Q .normal a w)(hd:Marks κ w a.defers)(hn:a.tmps.size=n)(hC:ar γ κ fr L w)(hV:∀t,SR (MA κ.M fr L) L w (env t) (a.tmps.getD t undef)):wpAnyIn (Fw al) dn g.P .any ops Q ops.size (Array.replicate ops.size false) a w:=by
 obtain⟨N,m,Z,⟨r,D⟩,H⟩:=C2 hok;have z:∀i,bi effs i=true↔N<=i/\i <N+(m+m):=fun i=>by rw[Z];exact D3
 have am:=H.size;unfold lU at he;rw[D]at he;simp only at he;rw[<- D]at he;split at he
 ·cases he
 ·rename_i e1 r1 ak;split at he
  ·rename_i y;cases he;obtain⟨E,F,a1,O,a3,a4,a5⟩:=px ops.toList 0 env fr ak
   have G:gq g C ops effs E F:=fun i o ho=>by
    have:=a3 i o (by rw[Array.getElem?_toList];exact ho);rwa[Nat.zero_add]at this
   rw[Array.length_toList]at a4 a5
   have ad:∀i,i<=N->F i=fr:=fun i hi=>by
    rw[<- O]
    exact p6 G 0 i (Nat.zero_le _) (by omega) fun q _ I hm=>by
     have:=(z q).1 (j8.2 hm);omega
   obtain⟨B0,b1,b2,b3⟩:=AG H G z m (Nat.le_refl _);rw[O]at b2 b3;obtain⟨B1,c1,c2,c3⟩:=AH H G z b1 (by rw[O];exact b2) (fun q J I=>by rw[O];exact(b3 q J I).2) m (Nat.le_refl _);rw[List.drop_eq_nil_of_le (by omega),List.append_nil,O,show N+m+m=ops.size by omega]at c2;unfold lT at y;rw[Bool.and_eq_true]at y;obtain⟨h1,h2⟩:=y
   have hD:∀q,q <m->E ops.size (bF ops (N+q))=.lp (fr.length+q) 0:=fun q I=>by
    obtain⟨J,ag⟩:=av (xs:=B0) (k:=q) (by omega);obtain⟨oa,_,_,_,_,g1,_,g2,_⟩:=H.pr q I;rw[lC G (bF ops (N+q)) (N+q+1) ops.size (by omega) (Nat.le_refl _) fun j o hj _ ho hd=>H.dst j o (N+q) oa _ ho g1 (by omega) g2 hd];exact(b3 q J ag).2
   refine Jf (κ:=κ) (n:=n) hS H z V G ad b1 (fun q J I=>(b3 q J I).1) c1 c3 (fun pend L' listed a' w' U hM=>?_) _ [] L _ a w ?_ (iJ.start H hd hn hC fun t=>by rw[a1];exact hV t)
   ·have q1:∀b∈B1,th b=true:=fun b hb=>List.all_eq_true.1 h1 b (by rw[<- a5,c2];simpa using hb)
    have q2:∀(i:Nat) (o:Oper) (t:Nat),i <N->ops[i]?=some o->o.dst=some t->∀r∈(E ops.size t).refs,r <fr.length:=fun i o t hi ho af rr hr=>by
     have h3:=List.all_eq_true.1 h2 t (by
      unfold tN;rw[List.mem_filterMap];exact⟨o,List.mem_of_getElem? (i:=i) (by rw[List.getElem?_take,if_pos hi,Array.getElem?_toList];exact ho),af⟩)
     rw[<- a4]at h3;have h4:=List.all_eq_true.1 h3 rr hr;simpa[Nat.blt_eq]using h4
    have q3:∀t,∀r∈(E 0 t).refs,r <fr.length:=fun t rr hr=>by
     rw[a1]at hr;obtain⟨u,hu⟩:=(hV t).reach rr hr;exact hC.lim _ _ hu
    have q4:∀b∈fr,∀r∈b.refs,r <fr.length:=fun b hb=>by
     obtain⟨k,hk⟩:=List.getElem?_of_mem hb;exact hC.inside hk
    have q5:∀j v,κ.L j=some v->j <fr.length:=fun j v hj=>by
     obtain⟨J,e1,_⟩:=hC.hand j v hj;exact aC e1
    obtain⟨L2,k1,k2⟩:=hM.fin H G U c1 c2 hD q1 q2 q3 q4 q5;rw[a5]at k1 k2;rw[a4]at k2;exact hK L2 a' w' hM.hd hM.hn k1 k2
   ·unfold dR;exact Nat.le_trans (List.countP_le_length) (by simp)
  ·cases he
end
def xP{ks:List Nat}{x:SV}(h:qV ks x=true):x.sub (cM ks)=x:=SV.r7 x fun i u=>by
 have h1:=List.all_eq_true.1 h i u;rw[Bool.not_eq_true']at h1;unfold cM;rw[h1]
def Et{ks:List Nat}{b:Lb}(h:pd ks b=true):b.sub (cM ks)=b:=by
 have u:∀i∈b.refs,cM ks i=some i:=fun i D=>by
  have h1:=List.all_eq_true.1 h i D;rw[Bool.not_eq_true']at h1;unfold cM;rw[h1]
 cases b with
 |box v T y=>show Lb.box v T (SV.ca (cM ks) y)=_;rw[SV.ln y u]
 |map v k z=>show Lb.map v k (SV.ca (cM ks) z)=_;rw[SV.ln z u]
 |_=>rfl
def pf(ks:List Nat)(e:Env)(t:Nat):cF ks e t=(e t).sub (cM ks):=by
 unfold cF;split
 ·have:cM []=some:=rfl;rw[this,SV.r8]
 ·rfl
def Bp{g:Cfg}{C:CallF}{env:Env}{fr fr':Fr}{op:Op}{x:SV}{ks:List Nat}(v:qU op=true)(h:bJ g C env fr op=some (x,fr',ks)){b:Nat}{z:Lb}(hb:fr[b]?=some z)(hk:b∉ks)(hl:pd ks z=true):fr'[b]?=fr[b]?:=by
 have I:∀(r:Fr),(fr++r)[b]?=fr[b]?:=fun r=>List.getElem?_append_left (aC hb)
 have set:∀(i:Nat) (y:Lb),ks=[i]->((dw [i] fr).set i y)[b]?=fr[b]?:=fun i y e=>by
  subst e;rw[List.getElem?_set_ne (by intro e;exact hk (by simp[e])),qZ,hb];show some (z.sub (cM [i]))=some z
  rw[Et hl]
 cases op
 case call c=>
  obtain⟨u,D,J⟩:=c;cases u
  case builtin G=>
   cases G
   case append=>
    unfold bJ bu at h;simp only[fA]at h;split at h
    ·split at h
     ·unfold oI at h
      repeat'(split at h)
      all_goals first
       |(cases h;done)
       |(cases h;exact I _)
       |(cases h;exact set _ _ rfl)
     ·cases h
    ·cases h
   all_goals(cases v)
  all_goals(cases v)
 all_goals(cases v)
section
variable {g:Cfg} {γ:Glob} {κ:Ctx} {C:CallF} {ops:Array Oper} {effs:List Nat} {n:Nat} {E:Nat->Env} {F:Nat->Fr} {p:Nat} {L:Ls} {listed:Array Bool} {a:Act} {w:World}
abbrev mF(ops:Array Oper)(E:Nat->Env):Prop:=∀(i:Nat) (o:Oper),ops[i]?=some o->∀t,o.dst≠some t->E (i+1) t=E i t
theorem stay(hm:mF ops E)(t j:Nat):∀i,j<=i->i<=ops.size->(∀(k:Nat) (o:Oper),j<=k->k <i->ops[k]?=some o->o.dst≠some t)->E i t=E j t
 |0,h,_,_=>by
   obtain rfl:j=0:=by omega
   rfl
 |i+1,h,D,v=>by
  rcases Nat.lt_or_ge i j with h1|h1
  ·obtain rfl:j=i+1:=by omega
   rfl
  ·have y:=Array.getElem?_eq_getElem (xs:=ops) (i:=i) (by omega);rw[hm i _ y t (v i _ h1 (by omega) y)];exact stay hm t j i h1 (by omega) fun k o u z=>v k o u (by omega)
def cq.Aj(hok:DrawB ops)(hm:mF ops E)(h:cq γ κ ops effs n E F p L listed a w){i t:Nat}(hi:i<=ops.size)
  (h1:∀(k:Nat) (ok:Oper),ops[k]?=some ok->ok.dst=some t->listed.getD k true=true->k <i)(h2:∀(k:Nat) (ok:Oper),ops[k]?=some ok->ok.dst=some t->listed.getD k true=false->i<=k):SR (MA κ.M (F p) L) L w (E i t) (a.tmps.getD t undef):=by
 by_cases y:∃(k:Nat) (ok:Oper),ops[k]?=some ok/\ok.dst=some t/\listed.getD k true=true
 ·obtain⟨k,ok,v,u,D⟩:=y;have G:=h1 k ok v u D;rw[stay hm t (k+1) i (by omega) hi fun m om J O I=>hok.dst m om k ok t I v (by omega) u];exact h.done k ok t v u D
 ·have z:∀(k:Nat) (o:Oper),ops[k]?=some o->o.dst=some t->listed.getD k true=false:=fun k o v u=>by
   rw[<- Bool.not_eq_true];exact fun D=>y ⟨k,o,v,u,D⟩
  rw[stay hm t 0 i (Nat.zero_le _) hi fun k o _ G v u=>by have:=h2 k o v u (z k o v u);omega];exact h.rest t z
def cq.looks(hok:DrawB ops)(hm:mF ops E)(h:cq γ κ ops effs n E F p L listed a w){i:Nat}{o:Oper}(ho:ops[i]?=some o)(hl:listed.getD i true=false)(G:∀e∈o.after,Region.binds .any e=true->listed.getD e.on false=true):
  ∀t,(.tmp t∈o.op.operands\/∃j U,ops[j]?=some U/\U.dst=some t/\cK o j=true)->SR (MA κ.M (F p) L) L w (E i t) (a.tmps.getD t undef):=fun t ht=>by
 have af:=(Array.getElem?_eq_some_iff.1 ho).1
 have u:∀k,cK o k=true->listed.getD k true=true/\k <i:=fun k z=>by
  obtain⟨e,Q,O,rfl⟩:=fQ z;exact⟨fz (G e Q O),hok.back i o ho e Q O⟩
 refine h.Aj hok hm (by omega) (fun k ok z V v=>?_) (fun k ok z V v=>?_)
 ·have ad:k≠i:=fun e=>by subst e;rw[hl]at v;cases v
  rcases ht with hy|⟨j,U,J,D,I⟩
  ·rcases hok.use i o k ok t ho z ad V hy with h1|h1
   ·exact(u k h1).2
   ·obtain⟨e,Q,O,rfl⟩:=fQ h1;have:=fz (h.cu k ok z v e Q O);rw[hl]at this;cases this
  ·by_cases y:k=j
   ·subst y;exact(u k I).2
   ·exact absurd D (hok.dst j U k ok t J z y V)
 ·rcases Nat.lt_or_ge k i with ag|Z
  ·rcases ht with hy|⟨j,U,J,D,I⟩
   ·rcases hok.use i o k ok t ho z (by omega) V hy with h1|h1
    ·have:=(u k h1).1;rw[v]at this;cases this
    ·obtain⟨e,Q,O,rfl⟩:=fQ h1;have:=hok.back k ok z e Q O;omega
   ·by_cases y:k=j
    ·subst y;have:=(u k I).1;rw[v]at this;cases this
    ·exact absurd D (hok.dst j U k ok t J z y V)
  ·exact Z
def tV{A:Nat->Prop}{e:Env}{op:Op}(h:∀t,.tmp t∈op.operands->SR A L w (e t) (a.tmps.getD t undef)):∀y∈op.operands,SR A L w (cE e y) (a.eval y):=fun y D=>by
 cases y with
 |const v=>exact gA v
 |global g=>exact .dead _
 |func f=>exact .t _ _ (.fn _ [] #[] #[] rfl (fun j x u z _=>by simp at z))
 |tmp t=>exact h t D
def rU{i q:Nat}(hs:i <listed.size)(h:∀e∈effs,e <q->e≠i->listed.getD e true=true):∀e∈effs,e <q->(listed.setIfInBounds i true).getD e true=true:=fun e y v=>by
 by_cases u:e=i
 ·subst u;rw[Array.getD_eq_getD_getElem?,Array.getElem?_setIfInBounds_self_of_lt hs];rfl
 ·rw[getD_set_ne true (Ne.symm u)];exact h e y v u
def cq.next(hok:DrawB ops)(Q:eG n ops.toList=true){i:Nat}{o:Oper}(ho:ops[i]?=some o)(h:cq γ κ ops effs n E F p L listed a w)(hl:listed.getD i true=false)(I:∀e∈o.after,Region.binds .any e=true->listed.getD e.on false=true){q:Nat}(hq:q<=ops.size)
  (Z:∀e∈effs,e <q->(listed.setIfInBounds i true).getD e true=true)(J:∀e∈effs,q<=e->e <ops.size->(listed.setIfInBounds i true).getD e true=false)
  {v:Value}{w':World}{L':Ls}{x:SV}(hT:Tr κ.M (F p) L w (F q) L' w' [])(ad:ar γ κ (F q) L' w')(hv:SR (MA κ.M (F q) L') L' w' x v)(af:E (i+1)=aD (E i) o.dst x):cq γ κ ops effs n E F q L' (listed.setIfInBounds i true) (a.put o.dst v) w':=by
 have V:=(Array.getElem?_eq_some_iff.1 ho).1;have G:∀d,o.dst=some d->d <n:=fun d z=>gD Q (Array.mem_toList_iff.2 (Array.mem_of_getElem? ho)) z;refine⟨?_,?_,?_,hq,Z,J,ad,fun k ok t y z D=>?_,fun t ht=>?_,fun k ok y D e he O=>?_⟩
 ·rw[put_defers];exact h.hd.tr h.core hT
 ·rw[dz,h.hn]
 ·rw[Array.size_setIfInBounds];exact h.hs
 ·by_cases u:k=i
  ·subst u;rw[ho]at y;cases y;rw[af,z,kF (by rw[h.hn];exact G t z)];show SR _ _ _ (cB _ t x t) v
   rw[fe];exact hv
  ·rw[ec (hok.dst i o k ok t ho y u z)];rw[getD_set_ne true (Ne.symm u)]at D;exact hT.sr (h.done k ok t y z D)
 ·have U:o.dst≠some t:=fun z=>by
   have ag:i <listed.size:=by rw[h.hs];exact V
   have:=ht i o ho z;rw[Array.getD_eq_getD_getElem?,Array.getElem?_setIfInBounds_self_of_lt ag]at this;cases this
  rw[ec U];refine hT.sr (h.rest t fun k ok y z=>?_);have u:k≠i:=fun e=>by subst e;rw[ho]at y;cases y;exact U z
  have:=ht k ok y z;rw[getD_set_ne true (Ne.symm u)]at this;exact this
 ·by_cases u:k=i
  ·subst u;rw[ho]at y;cases y;exact getD_set_true (I e he O)
  ·rw[getD_set_ne true (Ne.symm u)]at D;exact getD_set_true (h.cu k ok y D e he O)
theorem cq.op(hS:c7 g.P γ C)(hok:DrawB ops)(D:eG n ops.toList=true)(hm:mF ops E){Ei:Env}{i:Nat}{o:Oper}(ho:ops[i]?=some o)(h:cq γ κ ops effs n E F p L listed a w)(hl:listed.getD i true=false)(u:∀e∈o.after,Region.binds .any e=true->listed.getD e.on false=true)
  (an:∀t,(.tmp t∈o.op.operands\/∃j Z,ops[j]?=some Z/\Z.dst=some t/\cK o j=true)->Ei t=E i t){q:Nat}(hq:q<=ops.size)
  (J:∀e∈effs,e <q->(listed.setIfInBounds i true).getD e true=true)(z:∀e∈effs,q<=e->e <ops.size->(listed.setIfInBounds i true).getD e true=false)
  (hst:match o.guard with
   |none=>∃x,step g C (some effs) i Ei (F p) o.op=some (x,F q,[])/\E (i+1)=aD (E i) o.dst x
   |some (j,y)=>(db ops Ei j y=some true/\∃x,step g C (some effs) i Ei (F p) o.op=some (x,F q,[])/\E (i+1)=aD (E i) o.dst (.aN x))\/(db ops Ei j y=some false/\F q=F p/\E (i+1)=aD (E i) o.dst .no))
  {rd:Option Nat}{dn:Nat}{Q:Exit->Act->World->Prop}{R:Act->World->Prop}(hR:∀L' a' w',cq γ κ ops effs n E F q L' (listed.setIfInBounds i true) a' w'->R a' w'):wpOpIn (Fw rd) dn g.P ops Q i R a w:=by
 have af:=h.looks hok hm ho hl u;have G:∀t,(.tmp t∈o.op.operands\/∃j Z,ops[j]?=some Z/\Z.dst=some t/\cK o j=true)->SR (MA κ.M (F p) L) L w (Ei t) (a.tmps.getD t undef):=fun t ht=>by rw[an t ht];exact af t ht
 have al:=tV (a:=a) fun t ht=>G t (.inl ht);unfold wpOpIn;simp only[ho]
 cases hg:o.guard with
 |none=>
  rw[hg]at hst;obtain⟨x,O,I⟩:=hst;rw[if_pos (by simp[Region.wanted,hg])];exact(fb hS O κ L a w h.core al).wpIn fun v w' ⟨L',hT,ad,hv⟩=>hR L' _ _ (h.next hok D ho hl u hq J z hT ad hv I)
 |some gj=>
  obtain⟨j,y⟩:=gj;rw[hg]at hst;have ao:=hok.guard i o j y ho hg
  have am:∀W,db ops Ei j y=some W->Region.wanted o (yielded ops a.tmps)=W:=fun W hW=>mz (A:=MA κ.M (F p) L) (L:=L) (w:=w) hg hW fun d U=>by
   cases V:ops[j]? with
   |none=>rw[V]at U;cases U
   |some Z=>
    rw[V]at U;have ak:Z.dst=some d:=U;exact⟨G d (.inr ⟨j,Z,V,ak,ao⟩),by rw[h.hn];exact gD D (Array.mem_toList_iff.2 (Array.mem_of_getElem? V)) ak⟩
  rcases hst with⟨hW,x,O,I⟩|⟨hW,ag,I⟩
  ·rw[am _ hW,if_pos rfl];exact(fb hS O κ L a w h.core al).wpIn fun v w' ⟨L',hT,ad,hv⟩=>hR L' _ _ (h.next hok D ho hl u hq J z hT ad (.aN _ _ hv) I)
  ·rw[am _ hW,if_neg (by simp)];refine⟨fun _ _=>trivial,hR L _ _ (h.next hok D ho hl u hq J z (x:=.no) ?_ ?_ .no I)⟩
   ·rw[ag];exact Tr.refl
   ·rw[ag];exact h.core
structure g_ (g:Cfg) (C:CallF) (ops:Array Oper) (effs:List Nat) (E:Nat->Env) (F:Nat->Fr) (m:Nat) (om:Oper) (x:SV) (ks:List Nat):Prop where
 hB:jT g C ops effs E F m
 hA:∀(i:Nat) (o:Oper),m <i->ops[i]?=some o->ji g C effs ops i o (E i) (F i) (E (i+1)) (F (i+1))
 io:ops[m]?=some om
 hg:om.guard=none
 hx:∃r,bJ g C (E m) (F m) om.op=some (x,r,ks)/\F (m+1)=freeze r x.refs
 hz:qY (F m) ks x=true
 hE:E (m+1)=aD (cF ks (E m)) om.dst x
 me:m∈effs
 fp:qU om.op=true
 last:∀e∈effs,e <ops.size->e<=m
 behind:∀i,m <i->i <ops.size->((Region.before ops).getD i 0).testBit m=true
 DN:∀(i:Nat) (o:Oper),i <m->ops[i]?=some o->((Region.before ops).getD m 0).testBit i=false->i∉effs/\ll ops o.op i m=true/\(∀t∈mo ops o,qV ks (E m t)=true)/\∃rl,b_ (E m) o.op=some rl/\∀b∈rl,b∉ks/\∀lb,(F m)[b]?=some lb->pd ks lb=true
variable {m:Nat} {om:Oper} {x:SV} {ks:List Nat}
def Ez{e:Env}{r:Fr}(h:nu effs ops m e r om ks=true):m∈effs/\qU om.op=true/\(∀e∈effs,e <ops.size->e<=m)/\(∀i,m <i->i <ops.size->((Region.before ops).getD i 0).testBit m=true)/\
  ∀(i:Nat) (o:Oper),i <m->ops[i]?=some o->((Region.before ops).getD m 0).testBit i=false->i∉effs/\ll ops o.op i m=true/\(∀t∈mo ops o,qV ks (e t)=true)/\∃v,b_ e o.op=some v/\∀b∈v,b∉ks/\∀O,r[b]?=some O->pd ks O=true:=by
 unfold nu at h;rw[Bool.and_eq_true,Bool.and_eq_true,Bool.and_eq_true]at h;obtain⟨h1,h2,h3,h4⟩:=h;refine⟨?_,h2,fun e he hs=>?_,fun i u hs=>?_,fun i o u U G=>?_⟩
 ·by_cases u:m∈effs
  ·exact u
  ·rw[dJ.2 u]at h1;cases h1
 ·have:=List.all_eq_true.1 h3 e he;rw[Bool.or_eq_true,Nat.ble_eq,Nat.ble_eq]at this;omega
 ·have:=List.all_eq_true.1 h4 i (List.mem_range.2 hs);have z:Nat.beq i m=false:=by rw[<- Bool.not_eq_true,Nat.beq_eq];omega
  have D:Nat.blt i m=false:=by rw[<- Bool.not_eq_true,Nat.blt_eq];omega
  rw[z,D]at this;simpa using this
 ·have hs:=(Array.getElem?_eq_some_iff.1 U).1;have:=List.all_eq_true.1 h4 i (List.mem_range.2 hs);have z:Nat.beq i m=false:=by rw[<- Bool.not_eq_true,Nat.beq_eq];omega
  have D:Nat.blt i m=true:=by rw[Nat.blt_eq];omega
  rw[z,D]at this;simp only[G,U,Bool.false_or,Bool.and_eq_true]at this;obtain⟨V,Z,a3,y⟩:=this;refine⟨dJ.1 (by simpa using V),Z,fun t ht=>List.all_eq_true.1 a3 t ht,?_⟩;split at y
  ·rename_i v J;refine⟨v,J,fun b G=>?_⟩;have:=List.all_eq_true.1 y b G;rw[Bool.and_eq_true]at this;refine⟨dJ.1 (by simpa using this.1),fun O I=>?_⟩;have Q:=this.2;rw[I]at Q;exact Q
  ·cases y
def EK(E:Nat->Env)(ks:List Nat)(m:Nat):Nat->Env:=fun i=>if i<=m then cF ks (E i)else E i
def kM{i:Nat}(h:i<=m):EK E ks m i=cF ks (E i):=if_pos h
def gY{i:Nat}(h:m <i):EK E ks m i=E i:=if_neg (by omega)
def vL{i:Nat}{o:Oper}{e u:Env}{f v:Fr}(h:ji g C effs ops i o e f u v):∃y,u=aD e o.dst y:=by
 have:=h.2;split at this
 ·obtain⟨y,_,h2⟩:=this;exact⟨_,h2⟩
 ·rcases this with⟨_,y,_,h2⟩|⟨_,_,h2⟩
  ·exact⟨_,h2⟩
  ·exact⟨_,h2⟩
def H2{i:Nat}{o:Oper}{e z:Env}{f u:Fr}(h:ji g C effs ops i o e f z u)(hn:i∉effs):u=f:=by
 have:=h.2
 have v:∀{op y},step g C (some effs) i e f op=some (y,u,[])->u=f:=fun{op y} h=>by
  unfold step at h;simp only[dJ.2 hn]at h;exact(qA h).1
 split at this
 ·obtain⟨y,h2,_⟩:=this;exact v h2
 ·rcases this with⟨_,y,h2,_⟩|⟨_,h2,_⟩
  ·exact v h2
  ·exact h2
def g_.vK(H:g_ g C ops effs E F m om x ks):mF ops (EK E ks m):=fun i o u t v=>by
 rcases Nat.lt_trichotomy i m with h|h|h
 ·obtain⟨y,z⟩:=vL (H.hB.2 i o h u);rw[kM (by omega),kM (by omega),pf,pf,z,iG v]
 ·subst h;have:=H.io;rw[u]at this;cases this;rw[gY (by omega),kM (Nat.le_refl _),H.hE,iG v]
 ·obtain⟨y,z⟩:=vL (H.hA i o h u);rw[gY (by omega),gY (by omega),z,iG v]
def g_.vJ(H:g_ g C ops effs E F m om x ks):mF ops (fun i=>E (min i m)):=fun i o u t v=>by
 show E (min (i+1) m) t=E (min i m) t
 rcases Nat.lt_or_ge i m with h|h
 ·obtain⟨y,z⟩:=vL (H.hB.2 i o h u);rw[Nat.min_eq_left (show i+1<=m by omega),Nat.min_eq_left (show i<=m by omega),z,iG v]
 ·rw[Nat.min_eq_right (show m<=i+1 by omega),Nat.min_eq_right h]
theorem g_.F2(H:g_ g C ops effs E F m om x ks):∀i,m <i->i<=ops.size->F i=F (m+1)
 |0,h,_=>by omega
 |i+1,h,y=>by
  rcases Nat.lt_or_ge m i with h1|h1
  ·have v:=Array.getElem?_eq_getElem (xs:=ops) (i:=i) (by omega);rw[H2 (H.hA i _ h1 v) fun u=>by have:=H.last i u (by omega);omega];exact g_.F2 H i h1 (by omega)
  ·obtain rfl:i=m:=by omega
   rfl
def EA{e:Env}{d:Option Nat}{y:SV}(h:∀t,d=some t->y.sub (cM ks)=y):cF ks (aD e d y)=aD (cF ks e) d y:=by
 funext t;rw[pf];by_cases u:d=some t
 ·subst u;show((cB e t y) t).sub _=cB _ t y t
  rw[fe,fe,h t rfl]
 ·rw[iG u,iG u,pf]
def g_.late(H:g_ g C ops effs E F m om x ks)(hok:DrawB ops){E':Nat->Env}(h:cq γ κ ops effs n E' F (m+1) L listed a w){i:Nat}{o:Oper}(V:i <m)(ho:ops[i]?=some o)(hl:listed.getD i true=false)(hb:((Region.before ops).getD m 0).testBit i=false):
  (∀t,(.tmp t∈o.op.operands\/∃j O,ops[j]?=some O/\O.dst=some t/\cK o j=true)->E i t=EK E ks m i t)/\
  (∀y,step g C (some effs) i (E i) (F i) o.op=some (y,F (i+1),[])->step g C (some effs) i (E i) (F (m+1)) o.op=some (y,F (m+1),[]))/\∀y,E (i+1)=aD (E i) o.dst y->EK E ks m (i+1)=aD (EK E ks m i) o.dst y:=by
 obtain⟨D,al,Z,rl,aB,J⟩:=H.DN i o V ho hb;have hB:=H.hB.1
 have I:∀t,(.tmp t∈o.op.operands\/∃j O,ops[j]?=some O/\O.dst=some t/\cK o j=true)->E m t=E i t/\t∈mo ops o:=fun t ht=>by
  rcases ht with v|⟨j,O,ak,U,aq⟩
  ·refine⟨oV H.hB (by omega) (Nat.le_refl _) al (.tmp t) v,?_⟩;unfold mo pP;rw[List.mem_append,List.mem_filterMap];exact .inl ⟨.tmp t,Array.mem_toList_iff.2 v,rfl⟩
  ·obtain⟨e,he,G,rfl⟩:=fQ aq;have aE:=hok.back i o ho e he G;refine⟨oy H.hB t i m (by omega) (Nat.le_refl _) fun k ok hk _ z Q=>?_,?_⟩
   ·exact hok.dst e.on O k ok t ak z (by omega) Q U
   ·unfold mo;rw[List.mem_append,List.mem_append,List.mem_filterMap];exact .inr (.inr ⟨e,Array.mem_toList_iff.2 he,by rw[ak];exact U⟩)
 refine⟨fun t ht=>?_,fun y v=>?_,fun y v=>?_⟩
 ·obtain⟨h1,h2⟩:=I t ht;rw[kM (by omega),pf,<- h1,xP (Z t h2)]
 ·have u:b_ (E i) o.op=some rl:=by rw[<- aB];exact(u9 (oV H.hB (by omega) (Nat.le_refl _) al)).symm
  have au:=p5 H.hB V D;have aL:=v;unfold step at v⊢;simp only[dJ.2 D]at v⊢;rw[au]at v
  cases ag:jE o.op with
  |true=>exact uA ag u v
  |false=>
  unfold eX at v⊢;simp only[ag]at v⊢;obtain⟨am,_,_⟩:=pW v;have af:=vc u am
  have an:∀b∈rl,(F i)[b]?=(F (m+1))[b]?:=fun b hb=>by
   have h1:(F m)[b]?=(F i)[b]?:=p7 H.hB i b (af b hb) m (by omega) (Nat.le_refl _) fun m' aM h2 h3 h4 h5=>by
    have aJ:m'≠i:=fun e=>D (by rw[<- e];exact h4);obtain⟨wl,aN,e1,e2,e3⟩:=yr H.hB h ho hl D (show i <m' by omega) (by omega) h3 h4 h5;rw[u]at e2;cases e2;exact⟨wl,e1,e3 b hb⟩
   obtain⟨lb,ad⟩:=av (af b hb);rw[ad]at h1;obtain⟨r,hx,hr⟩:=H.hx
   have aw:bi x.refs b=false:=by
    rw[<- Bool.not_eq_true];intro G;have h2:=List.all_eq_true.1 H.hz b (j8.1 G);rw[Bool.or_eq_true,Nat.ble_eq]at h2;rcases h2 with h2|h2
    ·exact(J b hb).1 (j8.1 h2)
    ·have:=aC h1;omega
   rw[hr,lZ,aw,Bp H.fp hx h1 (J b hb).1 ((J b hb).2 lb h1),h1,ad];rfl
  rw[<- vd u an,am];rfl
 ·rw[kM (by omega),kM (by omega),v];refine EA fun t Q=>?_;have h1:E m t=E (i+1) t:=oy H.hB t (i+1) m (by omega) (Nat.le_refl _) fun k ok hk _ z ao=>hok.dst i o k ok t ho z (by omega) ao Q;have h2:E (i+1) t=y:=by rw[v,Q];exact fe ..
  rw[<- h2,<- h1];exact xP (Z t (by unfold mo;rw[List.mem_append,List.mem_append,Option.mem_toList];exact .inr (.inl Q)))
def Ji{rd:Option Nat}{dn:Nat}(hS:c7 g.P γ C)(hok:mC ops effs)(af:eG n ops.toList=true)(H:g_ g C ops effs E F m om x ks){Q:Exit->Act->World->Prop}
  (hK:∀L a w,Marks κ w a.defers->a.tmps.size=n->ar γ κ (F ops.size) L w->(∀t,SR (MA κ.M (F ops.size) L) L w (E ops.size t) (a.tmps.getD t undef))->Q .normal a w):
  ∀(u:Nat) (L:Ls) (listed:Array Bool) (a:Act) (w:World),dR listed ops.size<=u->listed.getD m true=true->cq γ κ ops effs n (EK E ks m) F (m+1) L listed a w->wpAnyIn (Fw rd) dn g.P .any ops Q u listed a w:=by
 have ad:=(Array.getElem?_eq_some_iff.1 H.io).1
 have fin:∀(L:Ls) (listed:Array Bool) (a:Act) (w:World),(∀k,k <ops.size->listed.getD k true=true)->cq γ κ ops effs n (EK E ks m) F (m+1) L listed a w->Q .normal a w:=fun L listed a w z h=>by
  have hF:=H.F2 ops.size ad (Nat.le_refl _);refine hK L a w h.hd h.hn (by rw[hF];exact h.core) fun t=>?_;rw[hF,<- gY (E:=E) (ks:=ks) ad]
  exact h.Aj hok.toDrawB H.vK (Nat.le_refl _) (fun k ok hk _ _=>(Array.getElem?_eq_some_iff.1 hk).1) (fun k ok hk _ I=>by
   have:=z k (Array.getElem?_eq_some_iff.1 hk).1;rw[I]at this;cases this)
 intro u
 induction u with
 |zero=>
  intro L listed a w hu V h;have z:=pS (listed:=listed) ops.size (by omega);refine⟨?_,fin L listed a w z h⟩
  cases hr:Region.ready .any ops listed with
  |nil=>rfl
  |cons i l=>
   have hm:i∈Region.ready .any ops listed:=by rw[hr];simp
   obtain⟨I,o,ho,_⟩:=mem_ready.1 hm;have:=z i (Array.getElem?_eq_some_iff.1 ho).1;rw[I]at this;cases this
 |succ u ih=>
  intro L listed a w hu V h;refine⟨fun hr=>fin L listed a w (qc hok.toDrawB h.hs hr) h,fun i hi=>?_⟩;obtain⟨I,o,ho,O⟩:=mem_ready.1 hi;have D:=(Array.getElem?_eq_some_iff.1 ho).1
  have ao:dR (listed.setIfInBounds i true) ops.size<=u:=by
   have:=oo I ops.size;rw[if_pos D]at this;omega
  have am:i≠m:=fun e=>by subst e;rw[V]at I;cases I
  have au:i∉effs:=fun he=>by
   have:=H.last i he D;have:=h.low i he (by omega);rw[I]at this;cases this
  have ak:∀L' a' w',cq γ κ ops effs n (EK E ks m) F (m+1) L' (listed.setIfInBounds i true) a' w'->wpAnyIn (Fw rd) dn g.P .any ops Q u (listed.setIfInBounds i true) a' w':=fun L' a' w' h'=>ih L' _ a' w' ao (by rw[getD_set_ne true am];exact V) h';have ag:=rU (listed:=listed) (i:=i) (effs:=effs) (q:=m+1) (by rw[h.hs];exact D) fun e he Z _=>h.low e he Z
  have U:∀e∈effs,m+1<=e->e <ops.size->(listed.setIfInBounds i true).getD e true=false:=fun e he h1 h2=>by
   have:=H.last e he h2;omega
  rcases Nat.lt_or_ge i m with Z|aq
  ·have hb:((Region.before ops).getD m 0).testBit i=false:=by
    rw[<- Bool.not_eq_true];intro hb;have:=h.gw (jW hb) fun o' an=>h.cu m o' an V;rw[I]at this;cases this
   obtain⟨h1,h2,h3⟩:=H.late hok.toDrawB h Z ho I hb;refine h.op hS hok.toDrawB af H.vK ho I O h1 ad ag U ?_ ak;have v:=(H.hB.2 i o Z ho).2
   cases hg:o.guard with
   |none=>
    rw[hg]at v;obtain⟨y,a1,J⟩:=v;exact⟨y,h2 y a1,h3 y J⟩
   |some gj=>
    obtain⟨j,al⟩:=gj;rw[hg]at v;rcases v with⟨hW,y,a1,J⟩|⟨hW,_,J⟩
    ·exact .inl ⟨hW,y,h2 y a1,h3 _ J⟩
    ·exact .inr ⟨hW,rfl,h3 _ J⟩
  ·have G:m <i:=by omega
   have f1:=H.F2 i G (by omega);have f2:=H.F2 (i+1) (by omega) D;refine h.op (Ei:=E i) hS hok.toDrawB af H.vK ho I O (fun t _=>by rw[gY G]) ad ag U ?_ ak;have v:=(H.hA i o G ho).2;rw[f1,f2]at v
   cases hg:o.guard with
   |none=>
    rw[hg]at v;obtain⟨y,a1,J⟩:=v;exact⟨y,a1,by rw[gY (by omega),gY G];exact J⟩
   |some gj=>
    obtain⟨j,al⟩:=gj;rw[hg]at v;rcases v with⟨hW,y,a1,J⟩|⟨hW,_,J⟩
    ·exact .inl ⟨hW,y,a1,by rw[gY (by omega),gY G];exact J⟩
    ·exact .inr ⟨hW,rfl,by rw[gY (by omega),gY G];exact J⟩
def Jh{rd:Option Nat}{dn:Nat}(hS:c7 g.P γ C)(hok:mC ops effs)(af:eG n ops.toList=true)(H:g_ g C ops effs E F m om x ks){Q:Exit->Act->World->Prop}
  (hK:∀L a w,Marks κ w a.defers->a.tmps.size=n->ar γ κ (F ops.size) L w->(∀t,SR (MA κ.M (F ops.size) L) L w (E ops.size t) (a.tmps.getD t undef))->Q .normal a w):
  ∀(I p:Nat) (L:Ls) (listed:Array Bool) (a:Act) (w:World),dR listed ops.size<=I->listed.getD m true=false->cq γ κ ops effs n (fun i=>E (min i m)) F p L listed a w->wpAnyIn (Fw rd) dn g.P .any ops Q I listed a w:=by
 have aE:=(Array.getElem?_eq_some_iff.1 H.io).1;intro I
 induction I with
 |zero=>
  intro p L listed a w hu ad h;have aM:=pS (listed:=listed) ops.size (by omega);rw[aM m aE]at ad;cases ad
 |succ I ih=>
  intro p L listed a w hu ad h;refine⟨fun hr=>?_,fun i hi=>?_⟩
  ·rw[qc hok.toDrawB h.hs hr m aE]at ad;cases ad
  obtain⟨hl,o,ho,J⟩:=mem_ready.1 hi;have u:=(Array.getElem?_eq_some_iff.1 ho).1
  have a6:dR (listed.setIfInBounds i true) ops.size<=I:=by
   have:=oo hl ops.size;rw[if_pos u]at this;omega
  have D:∀k,eE ops i k->listed.getD k true=true:=fun k ha=>h.gw ha fun o' al=>by rw[ho]at al;cases al;exact J
  have be:p<=m:=by
   rcases Nat.lt_or_ge m p with h1|h1
   ·have:=h.low m H.me h1;rw[ad]at this;cases this
   ·exact h1
  have ag:=h.looks hok.toDrawB H.vJ ho hl J
  have au:i∈effs->i<=m->F i=F p:=fun U V=>by
   have bd:p<=i:=by
    rcases Nat.lt_or_ge i p with h1|h1
    ·have:=h.low i U h1;rw[hl]at this;cases this
    ·exact h1
   refine oz H.hB p i bd V fun q h1 h2 h3=>?_;have:=D q (hok.eff i U q h3 u h2);rw[h.l6 q h3 h1 (by omega)]at this;cases this
  rcases Nat.lt_trichotomy i m with V|V|V
  ·-- ahead of it in the text
   have aq:=tV (a:=a) fun t ht=>ag t (.inl ht);have z:min i m=i:=Nat.min_eq_left (by omega);have G:min (i+1) m=i+1:=Nat.min_eq_left (by omega);have aU:∀q L' a' w',cq γ κ ops effs n (fun i=>E (min i m)) F q L' (listed.setIfInBounds i true) a' w'->wpAnyIn (Fw rd) dn g.P .any ops Q I (listed.setIfInBounds i true) a' w':=fun q L' a' w' h'=>ih q L' _ a' w' a6 (by rw[getD_set_ne true (by omega)];exact ad) h';have O:=(H.hB.2 i o V ho).2;by_cases U:i∈effs
   ·have hF:=au U (by omega);refine h.op (Ei:=E i) (q:=i+1) hS hok.toDrawB af H.vJ ho hl J (fun t _=>by rw[z]) (by omega) (rU (by rw[h.hs];exact u) fun e he an bc=>D e (hok.eff i U e he u (by omega))) (fun e he aQ aB=>?_) ?_ (aU _)
    ·rw[getD_set_ne true (by omega),<- Bool.not_eq_true];intro bb;have:=h.gw (hok.eff e he i U aB (by omega)) fun o' al=>h.cu e o' al bb;rw[hl]at this;cases this
    ·rw[hF]at O
     cases hg:o.guard with
     |none=>
      rw[hg]at O;obtain⟨y,a1,a2⟩:=O;exact⟨y,a1,by rw[z,G];exact a2⟩
     |some gj=>
      obtain⟨j,a7⟩:=gj;rw[hg]at O;rcases O with⟨hW,y,a1,a2⟩|⟨hW,a1,a2⟩
      ·exact .inl ⟨hW,y,a1,by rw[z,G];exact a2⟩
      ·exact .inr ⟨hW,a1,by rw[z,G];exact a2⟩
   ·refine h.op (Ei:=E i) (q:=p) hS hok.toDrawB af H.vJ ho hl J (fun t _=>by rw[z]) h.hp (rU (by rw[h.hs];exact u) fun e he an _=>h.low e he an) (fun e he aQ aB=>?_) ?_ (aU _)
    ·rw[getD_set_ne true (fun e'=>U (by rw[e'];exact he))];exact h.l6 e he aQ aB
    ·have aY:=fun y=>yu (x:=y) H.hB h be V ho hl U D (by rw[z]at aq;exact aq)
     cases hg:o.guard with
     |none=>
      rw[hg]at O;obtain⟨y,a1,a2⟩:=O;exact⟨y,aY y a1,by rw[z,G];exact a2⟩
     |some gj=>
      obtain⟨j,a7⟩:=gj;rw[hg]at O;rcases O with⟨hW,y,a1,a2⟩|⟨hW,a1,a2⟩
      ·exact .inl ⟨hW,y,aY y a1,by rw[z,G];exact a2⟩
      ·exact .inr ⟨hW,rfl,by rw[z,G];exact a2⟩
  ·-- the append itself
   subst V
   have eo:o=om:=by
    have h1:=H.io;rw[ho]at h1;exact Option.some.inj h1
   subst eo;have hF:=au H.me (Nat.le_refl _)
   have am:∀t,.tmp t∈o.op.operands->SR (MA κ.M (F p) L) L w (E i t) (a.tmps.getD t undef):=fun t ht=>by
    have:=ag t (.inl ht);rwa[Nat.min_self]at this
   have aq:=tV am;obtain⟨r2,bh,bf⟩:=H.hx;have aJ:=ua (o:=o) hS bh;rw[hF]at aJ;unfold wpOpIn;simp only[ho];rw[if_pos (by simp[Region.wanted,H.hg])];refine(aJ κ L a w h.core aq).wpIn fun v w' ⟨L',hT,ao,hv⟩=>?_;obtain⟨ao,aL,-⟩:=ao.jw x.refs;replace hT:=hT.trans (aL.AW (ks':=ks) fun i hi=>by cases hi);replace hv:=aL.sr hv;rw[<- bf]at ao hT hv;have aw:∀d,o.dst=some d->d <n:=fun d hd=>gD af (Array.mem_toList_iff.2 (Array.mem_of_getElem? ho)) hd;refine Ji hS hok af H hK I L' _ _ _ a6 ?_ ⟨?_,?_,?_,aE,?_,?_,ao,fun k ok t hk hd ak=>?_,fun t ht=>?_,fun k ok hk ak e he aN=>?_⟩
   ·rw[Array.getD_eq_getD_getElem?,Array.getElem?_setIfInBounds_self_of_lt (by rw[h.hs];exact u)];rfl
   ·rw[put_defers];exact h.hd.tr h.core hT
   ·rw[dz,h.hn]
   ·rw[Array.size_setIfInBounds];exact h.hs
   ·exact rU (by rw[h.hs];exact u) fun e he an bc=>D e (hok.eff i H.me e he u (by omega))
   ·intro e he h1 h2;have:=H.last e he h2;omega
   ·by_cases Z:k=i
    ·subst Z;rw[ho]at hk;cases hk;rw[gY (by omega),H.hE,hd,kF (by rw[h.hn];exact aw t hd)];show SR _ _ _ (cB _ t x t) v
     rw[fe];exact hv
    ·rw[ec (hok.dst i o k ok t ho hk Z hd)];rw[getD_set_ne true (Ne.symm Z)]at ak;have a_:=(Array.getElem?_eq_some_iff.1 hk).1
     have bj:k <i:=by
      rcases Nat.lt_or_ge k i with h1|h1
      ·exact h1
      ·have:=h.gw (jW (H.behind k (by omega) a_)) fun o' al=>h.cu k o' al ak;rw[hl]at this;cases this
     have h1:=h.done k ok t hk hd ak;rw[Nat.min_eq_left (show k+1<=i by omega)]at h1;rw[kM (by omega)];exact hT.env h1
   ·have aV:o.dst≠some t:=fun hd=>by
     have an:i <listed.size:=by rw[h.hs];exact u
     have:=ht i o ho hd;rw[Array.getD_eq_getD_getElem?,Array.getElem?_setIfInBounds_self_of_lt an]at this;cases this
    rw[ec aV,kM (Nat.zero_le _)]
    have h1:=h.rest t fun k ok hk hd=>by
     have Z:k≠i:=fun e=>by subst e;rw[ho]at hk;cases hk;exact aV hd
     have:=ht k ok hk hd;rw[getD_set_ne true (Ne.symm Z)]at this;exact this
    rw[Nat.min_eq_left (Nat.zero_le _)]at h1;exact hT.env h1
   ·by_cases Z:k=i
    ·subst Z;rw[ho]at hk;cases hk;exact getD_set_true (J e he aN)
    ·rw[getD_set_ne true (Ne.symm Z)]at ak;exact getD_set_true (h.cu k ok hk ak e he aN)
  ·-- behind it in the text: it waits for it
   have:=D m (jW (H.behind i V u));rw[ad]at this;cases this
def Gw{rd:Option Nat}{dn:Nat}(hS:c7 g.P γ C)(hok:mC ops effs)(D:eG n ops.toList=true){env env':Env}{fr fr':Fr}(he:lV g C m effs ops env fr=some (env',fr')){Q:Exit->Act->World->Prop}
  (hK:∀L a w,Marks κ w a.defers->a.tmps.size=n->ar γ κ fr' L w->(∀t,SR (MA κ.M fr' L) L w (env' t) (a.tmps.getD t undef))->Q .normal a w)(hd:Marks κ w a.defers)(hn:a.tmps.size=n)(U:ar γ κ fr L w)(V:∀t,SR (MA κ.M fr L) L w (env t) (a.tmps.getD t undef)):wpAnyIn (Fw rd) dn g.P .any ops Q ops.size (Array.replicate ops.size false) a w:=by
 unfold lV at he;split at he
 ·cases he
 rename_i e1 r1 G;split at he
 ·cases he
 rename_i o l v;split at he
 ·cases he
 rename_i hg;split at he
 ·cases he
 rename_i x r2 ks hx;split at he
 ·rename_i u;rw[Bool.and_eq_true]at u;obtain⟨u,Z⟩:=u
  have ag:m <ops.size:=by
   rcases Nat.lt_or_ge m ops.size with h|h
   ·exact h
   ·rw[List.drop_eq_nil_of_le (by simpa using h)]at v;cases v
  have io:ops[m]?=some o:=by
   have:=congrArg (·[0]?) v;simpa using this
  have hl:∀i:Nat,l[i]?=ops[m+1+i]?:=fun i=>by
   have h1:=congrArg (·[i+1]?) v;simp only[List.getElem?_drop,List.getElem?_cons_succ,Array.getElem?_toList]at h1;rw[<- h1,show m+1+i=m+(i+1) by omega]
  have ad:l.length=ops.size - (m+1):=by
   have:=congrArg List.length v;simp at this;omega
  obtain⟨E1,F1,a1,a2,a3,I,J⟩:=px (ops.toList.take m) 0 env fr G;obtain⟨E2,F2,b1,b2,b3,b4,b5⟩:=px l (m+1) _ _ he;have af:(ops.toList.take m).length=m:=by simp;omega
  rw[af]at I J;rw[ad]at b4 b5;obtain⟨k1,k2,k3,k4,k5⟩:=Ez u;have O:∀{α:Type} (f h:Nat->α) (i:Nat),i<=m->(if i<=m then f i else h (i - (m+1)))=f i:=fun f h i z=>if_pos z;have eR:∀{α:Type} (f h:Nat->α) (i:Nat),m <i->(if i<=m then f i else h (i - (m+1)))=h (i - (m+1)):=fun f h i z=>if_neg (by omega)
  have H:g_ g C ops effs (fun i=>if i<=m then E1 i else E2 (i - (m+1))) (fun i=>if i<=m then F1 i else F2 (i - (m+1))) m o x ks:=by
   refine⟨⟨by omega,fun i oi z y=>?_⟩,fun i oi z y=>?_,io,hg,⟨r2,?_,?_⟩,?_,?_,k1,k2,k3,k4,?_⟩
   ·simp only[O _ _ i (by omega),O _ _ (i+1) (by omega)];have:=a3 i oi (by rw[List.getElem?_take,if_pos z,Array.getElem?_toList];exact y);rwa[Nat.zero_add]at this
   ·simp only[eR _ _ i z,eR _ _ (i+1) (by omega)];have:=b3 (i - (m+1)) oi (by rw[hl,show m+1+(i - (m+1))=i by omega];exact y);rwa[show m+1+(i - (m+1))=i by omega,show i - (m+1)+1=i+1 - (m+1) by omega]at this
   ·simp only[if_pos (Nat.le_refl m),I,J];exact hx
   ·simp only[if_neg (show¬m+1<=m by omega),Nat.sub_self,b2]
   ·simp only[if_pos (Nat.le_refl m),J];exact Z
   ·simp only[if_pos (Nat.le_refl m),if_neg (show¬m+1<=m by omega),Nat.sub_self,I,b1]
   ·simp only[if_pos (Nat.le_refl m),I,J];exact k5
  refine Jh (n:=n) (κ:=κ) hS hok D H (fun L a w hd hn U V=>?_) _ 0 L _ a w ?_ ?_ (cq.start hd hn ?_ fun t=>?_)
  ·simp only[if_neg (show¬ops.size<=m by omega),b4,b5]at U V;exact hK L a w hd hn U V
  ·unfold dR;exact Nat.le_trans (List.countP_le_length) (by simp)
  ·rw[Array.getD_eq_getD_getElem?,Array.getElem?_replicate,if_pos ag];rfl
  ·simp only[O _ _ 0 (Nat.zero_le _),a2];exact U
  ·simp only[Nat.min_eq_left (Nat.zero_le m),O _ _ 0 (Nat.zero_le _),a1,a2];exact V t
 ·cases he
end
section
variable {γ:Glob} {κ:Ctx} {fr:Fr} {L:Ls} {w:World}
def zA(G:ar γ κ fr L w){i:Nat}{v:Value}{D:Lb}(I:L i=some v)(hb:fr[i]?=some D)(z:D.ro=true):∀b,Bk v b->MA κ.M fr L b:=fun b y=>
 ⟨(G.new i v b D I y hb).2.1,fun⟨j,u,J,h1,h2,h3,h4⟩=>by
  have:=G.bW j i u v b h1 I h2 y;subst this;rw[hb]at h3;cases h3;rw[z]at h4;cases h4⟩
mutual
theorem vR(z:ar γ κ fr L w):∀(s:SV) (v:Value),SR (MA κ.M fr L) L w s v->SR (MA κ.M fr L) L w (dp fr s) v
 | .ls i,v,h=>by
  rw[dp];split
  ·rename_i ad sz O U;obtain⟨Q,_⟩:=iu h;exact .t _ _ (rL z (fun _ h=>h) U Q fun b J=>zA z Q U rfl b (.one J))
  ·exact h
 | .agg y,v,h=>by
  rw[dp]
  cases h with
  |agg _ us hl hr=>
   obtain⟨D,G⟩:=sA z y us hr;split
   ·rename_i xs Z;obtain⟨h1,h2⟩:=mn (A:=MA κ.M fr L) (L:=L) (w:=w) Z;refine .t _ _ (.agg _ us (by rw[hl,<- D,h1]) fun j x u I V=>?_);obtain⟨s,hs⟩:=av (xs:=ja fr y) (k:=j) (by rw[h1];exact aC I);exact h2 j s x u hs I (G j s u hs V)
   ·exact .agg _ us (by rw[hl,D]) G
 | .aL y,v,h=>by
  rw[dp]
  cases h with
  |aL _ us hl hr=>
   obtain⟨D,G⟩:=sA z y us hr;exact .aL _ us (by rw[hl,D]) G
 | .fn f nf y,v,h=>by
  rw[dp]
  cases h with
  |fn _ _ fs us hl hr=>
   obtain⟨D,G⟩:=sA z y (fs++us) hr;exact xq (.fn _ _ fs us (by rw[hl,D]) G)
 | .aN s,v,h=>by
  rw[dp]
  cases h with
  |aN _ _ h=>exact vR z s v h
 | .t x,v,h=>by rw[dp]<;>first|exact h|(intros;contradiction)
 | .nil,v,h=>by rw[dp]<;>first|exact h|(intros;contradiction)
 | .tc O,v,h=>by rw[dp]<;>first|exact h|(intros;contradiction)
 | .nn O,v,h=>by rw[dp]<;>first|exact h|(intros;contradiction)
 | .lp i j,v,h=>by rw[dp]<;>first|exact h|(intros;contradiction)
 | .lv i sz a n,v,h=>by rw[dp]<;>first|exact h|(intros;contradiction)
 | .le i sz k j,v,h=>by rw[dp]<;>first|exact h|(intros;contradiction)
 | .lo i p,v,h=>by rw[dp]<;>first|exact h|(intros;contradiction)
 | .lr i p k,v,h=>by rw[dp]<;>first|exact h|(intros;contradiction)
 | .lm i,v,h=>by rw[dp]<;>first|exact h|(intros;contradiction)
 | .no,v,h=>by rw[dp]<;>first|exact h|(intros;contradiction)
 | .dead,v,h=>by rw[dp]<;>first|exact h|(intros;contradiction)
theorem sA(z:ar γ κ fr L w):∀(cs:List SV) (us:Array Value),(∀(j:Nat) (x:SV) (u:Value),cs[j]?=some x->us[j]?=some u->SR (MA κ.M fr L) L w x u)->(ja fr cs).length=cs.length/\∀(j:Nat) (x:SV) (u:Value),(ja fr cs)[j]?=some x->us[j]?=some u->SR (MA κ.M fr L) L w x u
 |[],us,_=>⟨by rw[ja],fun j x u y _=>by rw[ja]at y;simp at y⟩
 |c::cs,us,D=>by
  obtain⟨G,I⟩:=sA z cs (us.extract 1 us.size) fun j x u y v=>by
   rw[Array.getElem?_extract]at v;split at v
   ·rw[Nat.add_comm]at v;exact D (j+1) x u (by simpa using y) v
   ·cases v
  rw[ja];refine⟨by simp[G],fun j x u y v=>?_⟩
  cases j with
  |zero=>cases y;exact vR z c u (D 0 c u rfl v)
  |succ j=>
   refine I j x u (by simpa using y) ?_;have J:=(Array.getElem?_eq_some_iff.1 v).1;rw[Array.getElem?_extract,if_pos (by omega),Nat.add_comm];exact v
end
theorem zz:∀{l:List Nat},rJ fr l=true->∀i∈l,∃b,fr[i]?=some b/\b.ro=true
 |[],_,i,u=>by cases u
 |k::r,h,i,u=>by
  unfold rJ at h;split at h
  ·rename_i b v;rw[Bool.and_eq_true]at h;rcases List.mem_cons.1 u with rfl|u
   ·exact⟨b,v,h.1⟩
   ·exact zz h.2 i u
  ·cases h
def Gs(z:ar γ κ fr L w)(m:Nat){c:SV}{v:Value}(h:SR (MA κ.M fr L) L w c v):SR (MA κ.M fr L) L w (ve m fr c) v:=by
 unfold ve;split
 ·exact h
 ·split
  ·rename_i x J y;refine .t _ _ ((lx z (A:=MA κ.M fr L) (fun _ h=>h) deep).1 c x v J (fun i G u b I D=>?_) h);obtain⟨O,h1,h2⟩:=zz y i G;exact zA z I h1 h2 b D
  ·exact h
def vf(m:Nat)(b:Lb):(fT m fr b).ro=b.ro:=by cases b <;>rfl
def Gr(m:Nat)(b:Lb):(fT m fr b).tch=b.tch:=by cases b <;>rfl
def ar.Gt(z:ar γ κ fr L w)(m:Nat):ar γ κ (fr.map (fT m fr)) L w/\∀b,MA κ.M fr L b↔MA κ.M (fr.map (fT m fr)) L b:=by
 have G:∀(i:Nat) (y:Lb),(fr.map (fT m fr))[i]?=some y->∃D,fr[i]?=some D/\y=fT m fr D:=fun i y h=>by
  rw[List.getElem?_map]at h
  cases hf:fr[i]? with
  |none=>rw[hf]at h;cases h
  |some D=>rw[hf]at h;cases h;exact⟨D,rfl,rfl⟩
 have Z:∀b,Own fr L b↔Own (fr.map (fT m fr)) L b:=fun b=>by
  constructor
  ·rintro⟨i,v,D,h1,h2,h3,h4⟩;exact⟨i,v,fT m fr D,h1,h2,by rw[List.getElem?_map,h3];rfl,by rw[vf];exact h4⟩
  ·rintro⟨i,v,y,h1,h2,h3,h4⟩;obtain⟨D,I,rfl⟩:=G i y h3;rw[vf]at h4;exact⟨i,v,D,h1,h2,I,h4⟩
 have U:∀b,MA κ.M fr L b↔MA κ.M (fr.map (fT m fr)) L b:=fun b=>by unfold MA;rw[Z b]
 have ad:∀{x:SV} {v:Value},SR (MA κ.M fr L) L w x v->SR (MA κ.M (fr.map (fT m fr)) L) L w x v:=fun h=>SR.on (Nat.le_refl _) (fun b _ O=>⟨(U b).1 O,rfl⟩) (fun _ _ h=>h) h;have af:∀{x:AV} {v:Value},VR (MA κ.M fr L) w x v->VR (MA κ.M (fr.map (fT m fr)) L) w x v:=fun h=>VR.on (Nat.le_refl _) (fun b _ O=>⟨(U b).1 O,rfl⟩) h;refine⟨⟨z.bN,z.gn,z.gx,z.fresh,z.os,z.tape,z.output,z.size,z.kept,fun i v h=>by rw[List.length_map];exact z.lim i v h,fun i v b y h1 h2 h3=>?_,z.bW,fun j v h=>?_,fun i y h=>?_⟩,U⟩
 ·obtain⟨D,I,rfl⟩:=G i y h3;rw[vf];exact z.new i v b D h1 h2 I
 ·obtain⟨D,h1,h2⟩:=z.hand j v h;exact⟨fT m fr D,by rw[List.getElem?_map,h1];rfl,fun ht=>h2 (by rw[Gr]at ht;exact ht)⟩
 ·obtain⟨D,I,rfl⟩:=G i y h;have O:=z.blk i D I
  cases D with
  |box ro T cs=>
   obtain⟨g,us,h1,h2,h3,h4⟩:=O;refine⟨g,us,h1,h2,by rw[List.length_map];exact h3,fun j x u J hu=>?_⟩;rw[List.getElem?_map]at J
   cases hc:cs[j]? with
   |none=>rw[hc]at J;cases J
   |some c=>rw[hc]at J;cases J;exact ad (Gs z m (h4 j c u hc hu))
  |row ro ag sz es=>
   obtain⟨T,v,us,h1,h2,h3,h4,I⟩:=O
   exact⟨T,v,us,h1,h2,h3,h4,fun k j cs x hk hj=>by
    obtain⟨u,e1,e2⟩:=I k j cs x hk hj;exact⟨u,e1,af e2⟩⟩
  |map ro ks vs=>
   obtain⟨r,V,Q,h1,h2,h3,h4,I,h6,h7⟩:=O;exact⟨r,V,Q,h1,h2,h3,h4,fun j x u J hu=>af (I j x u J hu),fun j x u J hu=>ad (h6 j x u J hu),h7⟩
  |own ro x=>exact O
theorem oU:∀(l u:List Nat),∃r,bR u l=u++r
 |[],u=>⟨[],by unfold bR;simp⟩
 |i::l,u=>by
  unfold bR;split
  ·exact oU l u
  ·obtain⟨r,h⟩:=oU l (u++[i]);exact⟨i::r,by rw[h];simp⟩
theorem tD:∀(l u:List Nat) (i:Nat),i∈u\/i∈l->i∈bR u l
 |[],u,i,h=>by unfold bR;simpa using h
 |k::l,u,i,h=>by
  unfold bR;split
  ·rename_i v;refine tD l u i ?_;rcases h with h|h
   ·exact .inl h
   ·rcases List.mem_cons.1 h with rfl|h
    ·exact .inl (j8.1 v)
    ·exact .inr h
  ·refine tD l _ i ?_;rcases h with h|h
   ·exact .inl (by simp[h])
   ·rcases List.mem_cons.1 h with rfl|h
    ·exact .inl (by simp)
    ·exact .inr h
theorem sG:∀(m:Nat) (bs:Fr) (j:Nat),(eO m bs)[j]?=(bs[j]?).map fun b=>if j <m then b else b6 b
 |_,[],j=>by simp[eO]
 |0,b::bs,0=>by simp[eO]
 |0,b::bs,j+1=>by
  have:=sG 0 bs j;simp[eO,this]
 |m+1,b::bs,0=>by simp[eO]
 |m+1,b::bs,j+1=>by
  have:=sG m bs j;simp[eO,this]
theorem xw{f:Lb->Lb}:∀{l:List Nat} {bs:Fr},cJ fr l=some bs->cJ (fr.map f) l=some (bs.map f)
 |[],bs,h=>by unfold cJ at h;cases h;rfl
 |k::r,bs,h=>by
  unfold cJ at h;split at h
  ·cases h
  ·rename_i b u;split at h
   ·cases h
   ·rename_i l v;cases h;unfold cJ;rw[List.getElem?_map,u];simp only[Option.map_some,xw v,List.map_cons]
theorem wS(fr:Fr):∀(n:Nat) (l:List Nat),∃r,close fr n l=l++r
 |0,l=>⟨[],by simp[close]⟩
 |n+1,l=>by
  unfold close;obtain⟨r,h1⟩:=oU (rH fr l) l;obtain⟨q,h2⟩:=wS fr n (bR l (rH fr l));exact⟨r++q,by rw[h2,h1,List.append_assoc]⟩
def za{F:Fr}(O:ar γ κ F L w){m:Nat}(hm:∀j v,κ.L j=some v->j <m){r1:SV}{v:Value}{u:List Nat}{B:Fr}(ag:u.Nodup)(af:∀j,j <m->u[j]?=some j)(V:cJ F u=some B)(ak:SR (MA κ.M F L) L w r1 v):
  ∃L',ar γ κ (eO m (B.map (Lb.sub (aT u)))) L' w/\SR (MA κ.M (eO m (B.map (Lb.sub (aT u)))) L') L' w (r1.sub (aT u)) v:=by
 obtain⟨U,Q⟩:=qJ V
 have Z:∀(j:Nat) (z:Lb),(eO m (B.map (Lb.sub (aT u))))[j]?=some z->∃(i:Nat) (D:Lb),u[j]?=some i/\F[i]?=some D/\z=if j <m then D.sub (aT u)else b6 (D.sub (aT u)):=fun j z y=>by
  rw[sG,List.getElem?_map]at y
  cases I:B[j]? with
  |none=>rw[I]at y;cases y
  |some D=>
   rw[I]at y;cases y;obtain⟨i,hi⟩:=av (xs:=u) (k:=j) (by rw[<- U];exact aC I);obtain⟨b,h1,h2⟩:=Q j i hi;rw[I]at h2;cases h2;exact⟨i,D,hi,h1,rfl⟩
 have G:(eO m (B.map (Lb.sub (aT u)))).length=u.length:=by
  rw[<- U]
  have:∀(m:Nat) (bs:Fr),(eO m bs).length=bs.length:=fun m bs=>by
   induction bs generalizing m with
   |nil=>cases m <;>rfl
   |cons b bs ih=>cases m <;>simp[eO,ih]
  rw[this,List.length_map]
 obtain⟨h1,h2,h3⟩:=O.pC (eO m (B.map (Lb.sub (aT u)))) (fun j=>u.getD j 0) (aT u) (fun j k y hk e=>by
   rw[G]at y hk;have J:u[j]?=some (u.getD j 0):=by rw[List.getD_eq_getElem?_getD,List.getElem?_eq_getElem y];rfl
   have ek:u[k]?=some (u.getD k 0):=by rw[List.getD_eq_getElem?_getD,List.getElem?_eq_getElem hk];rfl
   rw[e]at J;exact rv ag J ek) (fun i j v hi hv=>by
   have:=qO hi;exact⟨by rw[G];exact aC this,by rw[List.getD_eq_getElem?_getD,this];rfl⟩) (fun j z y=>by
   obtain⟨i,D,e1,e2,rfl⟩:=Z j z y;refine⟨D,by rw[List.getD_eq_getElem?_getD,e1];exact e2,?_⟩;split
   ·exact kR _ _
   ·exact td (kR _ _)) (fun j v y=>by
   have ad:=hm j v y;have J:u[j]?=some j:=af j ad;obtain⟨D,e1,_⟩:=O.hand j v y;obtain⟨al,e2,e3⟩:=Q j j J;rw[e1]at e2;cases e2;refine⟨D,D.sub (aT u),e1,by rw[sG,List.getElem?_map,e3];simp[ad],by rw[List.getD_eq_getElem?_getD,J];rfl,fun ht=>by rw[Lb.r9]at ht;exact ht⟩)
 exact⟨_,h1,SR.sub _ (Nat.le_refl _) (fun b _ I=>⟨h2 b I,rfl⟩) h3 ak⟩
def xk(V:ar γ κ fr L w){m:Nat}(hm:∀j v,κ.L j=some v->j <m){r0 r:SV}{fr':Fr}{v:Value}(h:fin m r0 fr=some (r,fr'))(hv:SR (MA κ.M fr L) L w r0 v):∃L',ar γ κ fr' L' w/\SR (MA κ.M fr' L') L' w r v:=by
 unfold fin at h;simp only at h;have z:=vR V _ v (mw hv);generalize dp fr (un r0)=Z at h z;split at h
 ·rename_i u;cases h
  have aq:m=0:=by
   obtain⟨q,U⟩:=oU r.refs (List.range m);rw[U,List.append_eq_nil_iff,List.range_eq_nil]at u;exact u.1
  have G:r.refs=[]:=by
   cases hx:r.refs with
   |nil=>rfl
   |cons i l=>
    have:=tD r.refs (List.range m) i (.inr (by rw[hx];simp));rw[u]at this;cases this
  obtain⟨h1,h2,h3⟩:=V.pC [] (fun j=>j) (fun _=>none) (fun j k I=>by simp at I) (fun i j v h=>by cases h) (fun j lb h=>by simp at h) (fun j v I=>by have:=hm j v I;omega);exact⟨_,h1,SR.yK (fun b _ hb=>⟨h2 b hb,rfl⟩) (Nat.le_refl _) z G⟩
 ·split at h
  ·cases h
  ·rename_i bs am;have Q:(bR (List.range m) Z.refs).Nodup:=oT _ _ List.nodup_range
   have y:∀j,j <m->(bR (List.range m) Z.refs)[j]?=some j:=fun j O=>by
    obtain⟨q,U⟩:=oU Z.refs (List.range m);rw[U,List.getElem?_append_left (by simpa using O),List.getElem?_range O]
   generalize bR (List.range m) Z.refs=D at*
   split at h
   ·split at h
    ·cases h
    ·rename_i an al;split at h
     ·cases h
     ·cases h;refine za V hm (tn fr 4 D Q) (fun j I=>?_) al z;obtain⟨q,U⟩:=wS fr 4 D;rw[U,List.getElem?_append_left (aC (y j I))];exact y j I
   ·cases h;obtain⟨ad,ao,ag⟩:=V.jw (inner m fr D);obtain⟨af,ak⟩:=ad.Gt m;have J:=xw (f:=fT m (freeze fr (inner m fr D))) am;exact za af hm Q y J (SR.on (Nat.le_refl _) (fun b _ hb=>⟨(ak b).1 (ag b hb),rfl⟩) (fun _ _ h=>h) z)
end
def dk:Code->Bool
 | .seq a b=>dk a&&dk b
 | .cond _ a b=>dk a&&dk b
 | .block _ b=>dk b
 | .loop b=>dk b
 | .rangeFunc ..=>false
 |_=>true
def oB(γ:Glob)(P:Program)(G:Nat)(I:Array Value)(T:AV->Value->Prop)(yss:List (List AV))(wh:Bool):Prop:=
 eS P G/\∀(l:Nat) (J:List (List AV)->(Nat->Prop)->World->Prop) (z:World->Prop) (A:Nat->Prop) (W:World),
  (∀r A X Y,J r A X->Below X.heap.size X Y->J r A Y)->(∀X Y,z X->Below X.heap.size X Y->z Y)->
  (∀r A X,J r A X->ar γ ⟨A,fun _=>False,fun _=>False,X,fun _=>none⟩ [] (fun _=>none) X/\∀x v,T x v->VR A X x v)->
  (wh=false->∀A X,¬J [] A X)->
  (∀(y:List AV) (r:List (List AV)) (A:Nat->Prop) (D:Array Value) (X:World),J (y::r) A X->D.size=y.length->(∀(j:Nat) (x:AV) (u:Value),y[j]?=some x->D[j]?=some u->VR A X x u)->
   ∀m,YieldAt (Fw none) m P l D X fun e Y=>(e=.returned (.bool true)/\∃A',J r A' Y)\/(e=.returned (.bool false)/\z Y))->
  J yss A W->
  ∀m,CallsIn (Fw none) m P G (#[.func (.yield l) #[] #[]]++I) W fun e Y=>(∃v,e=.returned v)/\((wh=true/\∃A',J [] A' Y)\/z Y)
def ow(xs:List AV)(v:Array Value)(x:AV)(u:Value):Prop:=∃j:Nat,xs[j]?=some x/\v[j]?=some u
def eQ(g:Cfg)(f n:Nat):Code->Bool
 | .region id ops u=>eG n ops.toList&&(match u with
  |true=>(match lS (g.eff f id)with
   |0=>tL ops (g.eff f id)
   |1=>qv ops (g.eff f id)
   |4=>qu ops (nl (g.eff f id))
   |5=>qv ops (nl (g.eff f id))
   |_=>true)
  |false=>true)
 | .seq a b=>eQ g f n a&&eQ g f n b
 | .cond _ a b=>eQ g f n a&&eQ g f n b
 | .block _ b=>eQ g f n b
 | .loop b=>eQ g f n b
 | .rangeFunc _ ps asg b=>eQ g f n asg&&eQ g f n b&&dk asg&&dk b&&ps.toList.all fun p=>Nat.blt p n
 |_=>true
def ot(g:Cfg)(f:Nat):Bool:=match g.P.funcs[f]? with
 |none=>false
 |some fn=>match fn.body with
  |none=>false
  |some c=>eQ g f fn.ntmps c&&!(fn.name== "runtime.NumGoroutine")&&Nat.ble fn.results.size 4
structure Wf (g:Cfg) (γ:Glob):Prop where
 seq:∀(gf:Nat) (xs:List AV) (yss:List (List AV)) (wh:Bool),g.seq gf xs=some (yss,wh)->∀(lb:Array Value),lb.size=xs.length->oB γ g.P gf lb (ow xs lb) yss wh:=by intro _ _ _ _ h;cases h
 mixed:g.P.follows .mixedOrders=true
 nh:∀f,g.ok f=true->ot g f=true
 ext:∀(f:Nat) (xs:List AV) (r:SV) (fr':Fr),g.ext f xs=some (r,fr')->eS g.P f/\∀(κ:Ctx) (w:World) (us:Array Value),ar γ κ [] κ.L w->κ.W=w->us.size=xs.length->(∀(j:Nat) (x:AV) (u:Value),xs[j]?=some x->us[j]?=some u->VR (MA κ.M [] κ.L) w x u)->
  Calls g.P f us w fun e w'=>∃v L',e=.returned v/\ar γ κ fr' L' w'/\SR (MA κ.M fr' L') L' w' r v
 exh:c7 g.P γ g.exh:=by intro _ _ _ _ _ h;cases h
def Out.AD:Out->Exit
 | .normal=>.normal
 | .exit id=>.exit id
 | .ret=>.ret
def At(γ:Glob)(κ:Ctx)(n:Nat)(env:Env)(fr:Fr)(a:Act)(w:World):Prop:=Marks κ w a.defers/\a.tmps.size=n/\∃L,ar γ κ fr L w/\∀t,SR (MA κ.M fr L) L w (env t) (a.tmps.getD t undef)
def jf(γ:Glob)(κ:Ctx)(n:Nat)(o:Out)(env:Env)(fr:Fr):Exit->Act->World->Prop:=fun e a w=>e=o.AD/\At γ κ n env fr a w
def oC(g:Cfg)(γ:Glob)(Lp:LoopF):Prop:=∀(f:Nat) (b:Code) (env:Env) (fr:Fr) (o:Out) (u:Env) (fr':Fr),Lp f b env fr=some (o,u,fr')->∀n,eQ g f n b=true->∀(κ:Ctx) rd v a w,((rd=none/\¬κ.H κ.W.heap.size)\/dk b=true)->At γ κ n env fr a w->(Code.loop b).wpIn (Fw rd) v g.P (jf γ κ n o u fr') a w
section
variable {g:Cfg} {γ:Glob} {κ:Ctx} {C:CallF} {Lp:LoopF} {n:Nat}
def FY{fr:Fr}{L:Ls}{i:Nat}{D lb':Lb}(hi:fr[i]?=some D)(z:lb'.ro=D.ro)(b:Nat):Own (fr.set i lb') L b↔Own fr L b:=by
 have y:=aC hi;constructor
 ·rintro⟨j,v,x,h1,h2,h3,h4⟩;by_cases u:i=j
  ·subst u;rw[List.getElem?_set_self y]at h3;cases h3;exact⟨i,v,D,h1,h2,hi,z ▸ h4⟩
  ·rw[List.getElem?_set_ne u]at h3;exact⟨j,v,x,h1,h2,h3,h4⟩
 ·rintro⟨j,v,x,h1,h2,h3,h4⟩;by_cases u:i=j
  ·subst u;rw[hi]at h3;cases h3;exact⟨i,v,lb',h1,h2,List.getElem?_set_self y,z.trans h4⟩
  ·exact⟨j,v,x,h1,h2,by rw[List.getElem?_set_ne u];exact h3,h4⟩
def ar.Gz{fr:Fr}{L:Ls}{w:World}(u:ar γ κ fr L w){i:Nat}{Q lb':Lb}(hi:fr[i]?=some Q)(I:lb'.ro=Q.ro)(ht:lb'.tch=Q.tch)(hb:h_ (MA κ.M fr L) L w i lb'):ar γ κ (fr.set i lb') L w/\MA κ.M (fr.set i lb') L=MA κ.M fr L:=by
 have D:=aC hi
 have V:MA κ.M (fr.set i lb') L=MA κ.M fr L:=by
  funext b;unfold MA;rw[propext (FY hi I b)]
 have U:∀{j:Nat} {x:Lb},(fr.set i lb')[j]?=some x->∃y:Lb,fr[j]?=some y/\x.ro=y.ro/\x.tch=y.tch:=fun{j x} h=>by
  by_cases G:i=j
  ·subst G;rw[List.getElem?_set_self D]at h;cases h;exact⟨Q,hi,I,ht⟩
  ·rw[List.getElem?_set_ne G]at h;exact⟨x,h,rfl,rfl⟩
 refine⟨?_,V⟩
 exact{
  bN:=u.bN
  gn:=u.gn
  gx:=u.gx
  fresh:=u.fresh
  os:=u.os
  tape:=u.tape
  output:=u.output
  size:=u.size
  kept:=u.kept
  lim:=fun j v G=>by rw[List.length_set];exact u.lim j v G
  new:=fun j v b x h1 h2 h3=>by
   obtain⟨y,J,hr,_⟩:=U h3;obtain⟨q1,q2,q3,q4⟩:=u.new j v b y h1 h2 J;exact⟨q1,q2,q3,fun h=>q4 (hr ▸ h)⟩
  bW:=u.bW
  hand:=fun j v G=>by
   obtain⟨y,J,Z⟩:=u.hand j v G;by_cases z:i=j
   ·subst z;rw[hi]at J;cases J;exact⟨lb',List.getElem?_set_self D,fun h=>Z (ht ▸ h)⟩
   ·exact⟨y,by rw[List.getElem?_set_ne z];exact J,Z⟩
  blk:=fun j x O=>by
   rw[V];by_cases z:i=j
   ·subst z;rw[List.getElem?_set_self D]at O;cases O;exact hb
   ·rw[List.getElem?_set_ne z]at O;exact u.blk j x O}
def yG{fr:Fr}{s:SV}{i:Nat}{T:TypeId}(h:rp fr s=some (i,T)):fr[i]?=some (.box false T [.nil]):=by
 unfold rp at h;split at h
 ·split at h
  ·rename_i u;cases h;exact u
  ·cases h
 ·cases h
theorem yH{fr:Fr}{i:Nat}{T:TypeId}:∀{l:List SV},rq fr l=some (i,T)->fr[i]?=some (.box false T [.nil])
 |[],h=>by cases h
 |s::r,h=>by
  unfold rq at h;split at h
  ·rename_i x u;cases h;exact yG u
  ·exact yH h
def FA{fr:Fr}{s:SV}{i:Nat}{T:TypeId}(h:uR fr s=some (i,T)):fr[i]?=some (.box false T [.nil]):=by
 unfold uR at h;split at h
 ·exact yH h
 ·exact yG h
theorem At.own{env:Env}{fr:Fr}{a:Act}{w:World}:∀(sl:List (Nat×Nat)) (env:Env) (fr:Fr),At γ κ n env fr a w->At γ κ n (eM sl env fr).1 (eM sl env fr).2 a w
 |[],env,fr,h=>h
 |(t,sz)::r,env,fr,h=>by
  have al:(∀(L:Ls),SR (MA κ.M fr L) L w (env t) (a.tmps.getD t undef)->∃q,a.tmps.getD t undef=.slice q 0 0)->At γ κ n (cB env t (.ls fr.length)) (fr++[.row false false sz []]) a w:=fun Z=>by
   obtain⟨h1,h2,L,y,I⟩:=h;obtain⟨q,Z⟩:=Z L (I t);obtain⟨v,V⟩:=y.push (Below.refl _ _) (.row false false sz []) (.slice q 0 0) (fun b hb=>by cases q <;>cases hb) fun V=>⟨0,_,[],bP,.inl ⟨rfl,rfl,q,rfl⟩,by rw[List.length_nil];omega,fun k cs Q=>by simp at Q,fun k j cs x Q _=>by simp at Q⟩;refine⟨h1,h2,_,v,fun u=>?_⟩;by_cases G:u=t
   ·subst G;rw[fe,Z];exact .ls _ _ bP rfl
   ·rw[my G];exact V.sr (I u)
  unfold eM;split
  ·split
   ·rename_i x hx;refine At.own (env:=env) (fr:=fr) r _ _ ?_;obtain⟨h1,h2,L,y,I⟩:=h;obtain⟨an,aB,au⟩:=y.jw (kG fr deep (un (env t)));refine⟨h1,h2,L,an,fun u=>?_⟩;by_cases G:u=t
    ·subst G;rw[fe];exact .t _ _ ((lx y au deep).1 _ x _ hx (kZ y) (mw (I u)))
    ·rw[my G];exact aB.sr (I u)
   ·exact At.own (env:=env) (fr:=fr) r _ _ h
  split
  ·rename_i he;exact At.own (env:=env) (fr:=fr) r _ _ (al fun L hs=>by rw[he]at hs;generalize a.tmps.getD t undef=z at hs;cases hs;exact⟨none,rfl⟩)
  ·rename_i he;exact At.own (env:=env) (fr:=fr) r _ _ (al fun L hs=>by rw[he]at hs;generalize a.tmps.getD t undef=z at hs;cases hs with|tc _ q _=>exact⟨q,rfl⟩)
  ·split
   ·rename_i i T aJ;have J:=FA aJ;refine At.own (env:=env) (fr:=fr) r _ _ ?_;obtain⟨h1,h2,L,y,I⟩:=h;obtain⟨g,U,hL,hg,aL,aM⟩:=y.blk i _ J;have aQ:U.size=1:=aL;have ak:U[0]?=some U[0]:=Array.getElem?_eq_getElem (by omega);have h0:=aM 0 .nil U[0] rfl ak
    have hv:U[0]=.slice none 0 0:=by
     generalize U[0]=z at h0;cases h0;rfl
    obtain⟨v,V⟩:=y.push (Below.refl _ _) (.row false false sz []) (.slice none 0 0) (fun b hb=>by cases hb) fun V=>⟨0,_,[],bP,.inl ⟨rfl,rfl,none,rfl⟩,by rw[List.length_nil];omega,fun k cs Q=>by simp at Q,fun k j cs x Q _=>by simp at Q⟩;have af:=aC J;have D:(fr++[Lb.row false false sz []])[i]?=some (.box false T [.nil]):=by rw[List.getElem?_append_left af];exact J
    have aq:=v.blk i _ D;obtain⟨g',am,ad,O,ag,aN⟩:=aq
    have aE:g'=g/\am=U:=by
     have e1:=V.sr (SR.lp i 0 g hL)
     cases e1 with
     |lp _ _ _ Z=>
      rw[ad]at Z;cases Z;rw[hg]at O;cases O;exact⟨rfl,rfl⟩
    obtain⟨rfl,rfl⟩:=aE
    obtain⟨ao,aw⟩:=v.Gz D (lb':=.box false T [.ls fr.length]) rfl rfl ⟨g',am,ad,O,ag,fun j x u hx G=>by
     match j with
     |0=>
      cases hx;rw[ak]at G;cases G;rw[hv];exact .ls _ _ bP rfl
     |j+1=>simp at hx⟩
    have e:fr.set i (.box false T [.ls fr.length])++[Lb.row false false sz []]=(fr++[Lb.row false false sz []]).set i (.box false T [.ls fr.length]):=by
     rw[List.set_append_left _ _ af]
    rw[e];refine⟨h1,h2,_,ao,fun u=>?_⟩;rw[aw];exact V.sr (I u)
   ·exact At.own (env:=env) (fr:=fr) r _ _ h
theorem pu{A:Nat->Prop}{L:Ls}{w:World}{tm:Nat->Value}:∀(l:List (Nat×SV)),(∀p∈l,SR A L w p.2 (tm p.1))->∀t,SR A L w (dZ l t) (tm t)
 |[],_,t=>.dead _
 |(k,v)::r,h,t=>by
  unfold dZ;split
  ·rename_i y;obtain rfl:t=k:=by simpa using y
   exact h (t,v) (by simp)
  ·exact pu r (fun p u=>h p (by simp[u])) t
def AM(h:Nat)(fr:Fr):Go.Proofs.YtgbfedgghjcdcaaGreatDoor.trim h (freeze fr ((List.range fr.length).filter (Nat.ble h)))=Go.Proofs.YtgbfedgghjcdcaaGreatDoor.trim h fr:=by
 unfold Go.Proofs.YtgbfedgghjcdcaaGreatDoor.trim;rw[nj];split
 ·rename_i u;rw[Nat.ble_eq]at u
  have:(List.range fr.length).filter (Nat.ble h)=[]:=by
   rw[List.filter_eq_nil_iff];intro i v;have:=List.mem_range.1 v;rw[Nat.ble_eq];omega
  rw[this];rfl
 ·congr 1;apply List.ext_getElem?;intro j;rw[List.getElem?_take,List.getElem?_take];split
  ·rename_i D;rw[lZ]
   have:bi ((List.range fr.length).filter (Nat.ble h)) j=false:=by
    rw[dJ];intro y;have:=(List.mem_filter.1 y).2;rw[Nat.ble_eq]at this;omega
   rw[this]
   cases fr[j]? with
   |none=>rfl
   |some z=>cases z <;>rfl
  ·rfl
def At.handed{env:Env}{fr:Fr}{a:Act}{w:World}(u:At γ κ n env fr a w):∀j v,κ.L j=some v->j <fr.length:=fun j v z=>by
 obtain⟨_,_,L,y,_⟩:=u;obtain⟨D,h1,_⟩:=y.hand j v z;exact aC h1
theorem At.head{lv:Option (List Nat)}{h:Nat}{env:Env}{fr:Fr}{a:Act}{w:World}(J:At γ κ n env fr a w)(hh:∀j v,κ.L j=some v->j <h):At γ κ n (head lv h env fr).1 (head lv h env fr).2 a w:=by
 unfold Go.Proofs.YtgbfedgghjcdcaaGreatDoor.head;split
 ·exact J
 ·rename_i l
  have hh:∀j v,κ.L j=some v->j <il l h fr:=fun j v V=>by
   unfold il;split
   ·exact J.handed j v V
   ·exact hh j v V
  simp only;generalize il l h fr=h at hh⊢;obtain⟨h1,h2,L,G,hV⟩:=J;obtain⟨O,z,Q⟩:=G.jw ((List.range fr.length).filter (Nat.ble h));obtain⟨L',y,I⟩:=O.trim h hh;rw[AM]at y I;refine⟨h1,h2,L',y,fun t=>pu (tm:=fun t=>a.tmps.getD t undef) _ (fun p hp=>?_) t⟩;obtain⟨k,_,rfl⟩:=List.mem_map.1 hp;have U:=mw (hV k);show SR _ _ _ (kV fr h (un (env k))) _
  unfold kV;split
  ·exact I _ _ (z.sr U)
  ·split
   ·rename_i x D hx
    have hv:=(lx G Q deep).1 _ x _ hx (fun i hi u b Z hb=>by
     refine kZ G i ?_ u b Z hb;have:=List.all_eq_true.1 D i hi;exact List.mem_filter.2 ⟨List.mem_range.2 (G.lim i u Z),this⟩) U
    have:=I _ _ (SR.t x _ hv);rw[SV.sub]at this;exact this
   ·exact I _ _ (z.sr U)
end
section
variable {γ:Glob} {κ:Ctx} {fr:Fr} {L:Ls} {w:World}
def Marks.below{w':World}{ds:List Deferred}(h:Marks κ w ds)(hb:Below w.heap.size w w'):Marks κ w' ds:=by
 obtain⟨⟨v,h1,h2,h3⟩,h4⟩:=h;exact⟨⟨v,h1,h2,fun D u=>⟨(h3 D u).1,(hb.block D (Array.getElem?_eq_some_iff.1 (h3 D u).2).1).trans (h3 D u).2⟩⟩,h4⟩
def Marks.put{l:Nat}{r:Loop}{o:Obj}{ds:List Deferred}(h:Marks κ w ds)(hl:w.heap[l]?=some (.loop r)):Marks κ (w.putObj l o) ds:=by
 obtain⟨⟨y,h1,h2,h3⟩,h4⟩:=h;refine⟨⟨y,h1,h2,fun D u=>⟨(h3 D u).1,?_⟩⟩,h4⟩;have v:D≠l:=fun e=>by subst e;rw[(h3 D u).2]at hl;cases hl
 exact(World.putObj_heap_other v).trans (h3 D u).2
def ar.zl(h:ar γ κ fr L w){W1 D:World}(hW:Lq γ.n κ.W W1)(hw:Lq γ.n w D)(hk:∀k,k <κ.W.heap.size->¬κ.X k->D.heap[k]?=W1.heap[k]?):ar γ ⟨κ.M,κ.X,κ.H,W1,κ.L⟩ fr L D where
 bN:=γ.stays _ _ h.bN fun k hk=>by
  rcases hw.blk k with h1|⟨J,_⟩
  ·exact h1
  ·omega
 gn:=by show γ.n<=W1.heap.size;rw[hW.size];exact h.gn
 gx:=fun b y=>by show _/\b <W1.heap.size;rw[hW.size];exact h.gx b y
 fresh:=fun b y=>h.fresh b (by have y:W1.heap.size<=b:=y;rw[hW.size]at y;exact y)
 os:=(hw.os.trans h.os).trans hW.os.symm
 tape:=(hw.tape.trans h.tape).trans hW.tape.symm
 output:=(hw.output.trans h.output).trans hW.output.symm
 size:=by show W1.heap.size<=_;rw[hW.size,hw.size];exact h.size
 kept:=fun k u I=>hk k (by have u:k <W1.heap.size:=u;rw[hW.size]at u;exact u) I
 lim:=h.lim
 new:=fun i v b z h1 h2 h3=>by
  show _/\_/\(W1.heap.size<=b\/_)/\(_->W1.heap.size<=b\/_)
  rw[hw.size,hW.size];exact h.new i v b z h1 h2 h3
 bW:=h.bW
 hand:=h.hand
 blk:=fun i z G=>(h.blk i z G).lq hw
theorem Ad{A:Nat->Prop}:∀(z:List Nat) (D:List AV) (us:List Value) (env:Env) (tm:Array Value),z.length=D.length->us.length=D.length->(∀p∈z,p <tm.size)->(∀t,SR A L w (env t) (tm.getD t undef))->(∀(j:Nat) (x:AV) (u:Value),D[j]?=some x->us[j]?=some u->VR A w x u)->
  ∀t,SR A L w (lh z D env t) (((z.zip us).foldl (fun t (p,v)=>t.setIfInBounds p v) tm).getD t undef)
 |[],D,us,env,tm,_,_,_,h,_=>by unfold lh;simpa using h
 |p::z,[],us,env,tm,h1,_,_,_,_=>by cases h1
 |p::z,y::D,[],env,tm,_,h2,_,_,_=>by cases h2
 |p::z,y::D,u::us,env,tm,h1,h2,I,h,J=>by
  unfold lh;rw[List.zip_cons_cons,List.foldl_cons];refine Ad z D us _ _ (by simpa using h1) (by simpa using h2) (fun q O=>by rw[Array.size_setIfInBounds];exact I q (by simp[O])) (fun t=>?_) (fun j x v U Q=>J (j+1) x v (by simpa using U) (by simpa using Q)) ;by_cases G:t=p
  ·subst G;rw[fe,Array.getD_eq_getD_getElem?,Array.getElem?_setIfInBounds_self_of_lt (I t (by simp))];exact .t _ _ (J 0 y u rfl rfl)
  ·rw[my G,Array.getD_eq_getD_getElem?,Array.getElem?_setIfInBounds_ne (Ne.symm G),<- Array.getD_eq_getD_getElem?];exact h t
theorem A6:∀(l:List (Nat×Value)) (tm:Array Value),(l.foldl (fun t (p,v)=>t.setIfInBounds p v) tm).size=tm.size
 |[],_=>rfl
 |(p,v)::l,tm=>by rw[List.foldl_cons,A6 l];exact Array.size_setIfInBounds
def Out.code:Out->Code
 | .normal=>.skip
 | .exit id=>.exit id
 | .ret=>.ret
structure eg (γ:Glob) (κ:Ctx) (T:AV->Value->Prop) (S:Nat) (lo:Loop) (tm:Array Value) (ds:List Deferred) (env:Env) (fr:Fr) (L:Ls) (X:World):Prop where
 core:ar γ κ fr L X
 env:∀t,SR (MA κ.M fr L) L X (env t) (tm.getD t undef)
 cap:∀x v,T x v->VR (MA κ.M fr L) X x v
 marks:Marks κ X ds
 ep:X.heap[S+1]?=some (.loop lo)
 j3:X.heap[S]?=some (.deferred (some []))
variable {T:AV->Value->Prop} {S:Nat} {lo lo':Loop} {tm:Array Value} {ds:List Deferred} {env:Env} {X Y:World}
theorem eg.below(h:eg γ κ T S lo tm ds env fr L X)(hb:Below X.heap.size X Y):eg γ κ T S lo tm ds env fr L Y where
 core:=h.core.later hb
 env:=fun t=>(h.env t).later hb
 cap:=fun x v u=>(h.cap x v u).later hb
 marks:=h.marks.below hb
 ep:=(hb.block _ (Array.getElem?_eq_some_iff.1 h.ep).1).trans h.ep
 j3:=(hb.block _ (Array.getElem?_eq_some_iff.1 h.j3).1).trans h.j3
theorem eg.put(y:κ.W.heap.size<=S)(h:eg γ κ T S lo tm ds env fr L X):eg γ κ T S lo' tm ds env fr L (X.putObj (S+1) (.loop lo')) where
 core:=h.core.lq (Lq.put (by omega) h.ep rfl)
 env:=fun t=>(h.env t).lq (Lq.put (B:=S+1) (Nat.le_refl _) h.ep rfl)
 cap:=fun x v u=>(h.cap x v u).lq (Lq.put (B:=S+1) (Nat.le_refl _) h.ep rfl)
 marks:=h.marks.put h.ep
 ep:=World.putObj_heap_same (Array.getElem?_eq_some_iff.1 h.ep).1
 j3:=(World.putObj_heap_other (by omega)).trans h.j3
theorem eg.head{lv:Option (List Nat)}{h:Nat}(y:eg γ κ T S lo tm ds env fr L X)(hh:∀j v,κ.L j=some v->j <h):∃L',eg γ κ T S lo tm ds (head lv h env fr).1 (head lv h env fr).2 L' X:=by
 unfold Go.Proofs.YtgbfedgghjcdcaaGreatDoor.head;split
 ·exact⟨L,y⟩
 ·rename_i l
  have hh:∀j v,κ.L j=some v->j <il l h fr:=fun j v Z=>by
   unfold il;split
   ·obtain⟨lb,h1,_⟩:=y.core.hand j v Z;exact aC h1
   ·exact hh j v Z
  simp only;generalize il l h fr=h at hh⊢;obtain⟨J,z,O⟩:=y.core.jw ((List.range fr.length).filter (Nat.ble h));obtain⟨L',D,G⟩:=J.trim h hh;rw[AM]at D G;refine⟨L',D,fun t=>pu (tm:=fun t=>tm.getD t undef) _ (fun p hp=>?_) t,fun x v V=>?_,y.marks,y.ep,y.j3⟩
  ·obtain⟨k,_,rfl⟩:=List.mem_map.1 hp;have Q:=mw (y.env k);show SR _ _ _ (kV fr h (un (env k))) _
   unfold kV;split
   ·exact G _ _ (z.sr Q)
   ·split
    ·rename_i x I V
     have U:=(lx y.core O deep).1 _ x _ V (fun i hi u b hu hb=>by
      refine kZ y.core i ?_ u b hu hb;have:=List.all_eq_true.1 I i hi;exact List.mem_filter.2 ⟨List.mem_range.2 (y.core.lim i u hu),this⟩) Q
     have:=G _ _ (SR.t x _ U);rw[SV.sub]at this;exact this
    ·exact G _ _ (z.sr Q)
  ·have:=G _ _ (SR.t x _ (z.vr (y.cap x v V)));rw[SV.sub]at this
   cases this with
   |t _ _ U=>exact U
def Loop.Gq(h1:lo.state=.ready)(h2:lo.pending=none):{{lo with state:=.busy}with state:=.ready,pending:=none}=lo:=by
 cases lo;simp_all
def GS{g:Cfg}{n:Nat}{lv:Option (List Nat)}{A B:Env->Fr->Option (Out×Env×Fr)}{asg body:Code}
  (hA:∀env fr o env' fr',A env fr=some (o,env',fr')->∀κ l dn a w,At γ κ n env fr a w->asg.wpIn (Fw (some l)) dn g.P (jf γ κ n o env' fr') a w)
  (hB:∀env fr o env' fr',B env fr=some (o,env',fr')->∀κ l dn a w,At γ κ n env fr a w->body.wpIn (Fw (some l)) dn g.P (jf γ κ n o env' fr') a w)
  (aB:∀p∈lo.params.toList,p <n)(hS:κ.W.heap.size<=S)(h1:lo.state=.ready)(h2:lo.pending=none)(h3:lo.assign=asg)(h4:lo.body=body)(ag:lo.tmps.size=n)
  (h:eg γ κ T S lo lo.tmps ds env fr L X){y:List AV}{o:Out}{e:Env}{r:Fr}(hr:iZ lv A B lo.params.toList y env fr=some (o,e,r)){us:Array Value}(ak:us.size=y.length)
  (hv:∀(j:Nat) (x:AV) (u:Value),y[j]?=some x->us[j]?=some u->VR (MA κ.M fr L) X x u)(m:Nat):
  YieldAt (Fw none) m g.P (S+1) us X fun en Y=>(o=.normal/\en=.returned (.bool true)/\∃L',eg γ κ T S lo lo.tmps ds e r L' Y)\/(o≠.normal/\en=.returned (.bool false)/\∃L',eg γ κ T S {lo with state:=.done,pending:=some o.code} lo.tmps ds e r L' Y):=by
 have hγ:γ.n<=S+1:=by have:=h.core.gn;omega
 unfold iZ at hr;split at hr
 ·cases hr
 rename_i J;rw[Nat.beq_eq]at J;split at hr
 ·cases hr
 rename_i bs hb;split at hr
 rotate_left
 ·cases hr
 rename_i e1 r1 am;split at hr
 ·cases hr
 rename_i Q e2 r2 an;split at hr
 ·cases hr
 rename_i aw;obtain⟨c1,c2,c3⟩:=h.core.handed List.nodup_range hb;have af:¬(bv κ fr L X (List.range fr.length)).X (S+1):=fun⟨i,_,v,lb,q1,q2,q3,q4⟩=>(h.core.mark (by omega) h.ep rfl).2 ⟨i,v,lb,q1,q2,q3,q4⟩;have O:S+1 <X.heap.size:=(Array.getElem?_eq_some_iff.1 h.ep).1
 have wu:At γ (bv κ fr L X (List.range fr.length)) n (lh lo.params.toList y fun t=>(env t).sub (aT (List.range fr.length))) (bs.map fun b=>b6 (b.sub (aT (List.range fr.length)))) {tmps:=(lo.params.zip us).foldl (fun t (p,v)=>t.setIfInBounds p v) lo.tmps,defers:=[]} X:=by
  have hz:(lo.params.zip us).foldl (fun t (p,v)=>t.setIfInBounds p v) lo.tmps=(lo.params.toList.zip us.toList).foldl (fun t (p,v)=>t.setIfInBounds p v) lo.tmps:=by
   rw[<- Array.foldl_toList,Array.toList_zip]
  rw[hz];refine⟨Marks.nil,(A6 _ _).trans ag,_,c1,Ad _ _ _ _ _ (by rw[J]) (by simpa using ak) (fun p hp=>by rw[ag];exact aB p hp) (fun t=>c3 _ _ (h.env t)) fun j x u hx hu=>?_⟩;exact VR.on (Nat.le_refl _) (fun b _ hm=>⟨c2 b hm,rfl⟩) (hv j x u hx (by simpa using hu))
 refine⟨lo.fn,(lo.params.zip us).foldl (fun t (p,v)=>t.setIfInBounds p v) lo.tmps,asg,body,?_,roundIn_of_wpIn trivial ?_⟩
 ·have:=run_yield (P:=g.P) (args:=us) h.ep (by rw[ak,J];simp);rw[h3,h4]at this;exact this
 refine wpIn_mono (hA _ _ _ _ _ am _ (S+1) m _ X wu) fun ex a1 X1 ⟨he,m1,s1,L1,U,au⟩=>?_;subst he;have G:X1.heap[S+1]?=some (.loop lo):=(U.kept (S+1) O af).trans h.ep;refine⟨_,run_beginRound G h1,?_⟩
 have ao:ar γ ⟨(bv κ fr L X (List.range fr.length)).M,(bv κ fr L X (List.range fr.length)).X,(bv κ fr L X (List.range fr.length)).H,X.putObj (S+1) (.loop {lo with state:=.busy}),(bv κ fr L X (List.range fr.length)).L⟩ r1 L1 (X1.putObj (S+1) (.loop {lo with state:=.busy})):=
  U.zl (Lq.put hγ h.ep rfl) (Lq.put hγ G rfl) fun k hk hx=>by
   by_cases z:k=S+1
   ·subst z;rw[World.putObj_heap_same O,World.putObj_heap_same (Array.getElem?_eq_some_iff.1 G).1]
   ·rw[World.putObj_heap_other z,World.putObj_heap_other z];exact U.kept k hk hx
 have al:At γ _ n e1 r1 a1 (X1.putObj (S+1) (.loop {lo with state:=.busy})):=⟨by
  obtain⟨⟨Ds,n1,n2,n3⟩,n4⟩:=m1.put (o:=.loop {lo with state:=.busy}) G
  exact⟨⟨Ds,n1,n2,fun D hD=>⟨by
   show(X.putObj (S+1) _).heap.size<=D
   rw[World.putObj_size];exact(n3 D hD).1,(n3 D hD).2⟩⟩,fun hh=>n4 (by
   have hh:(bv κ fr L X (List.range fr.length)).H (X.putObj (S+1) (.loop {lo with state:=.busy})).heap.size:=hh;rw[World.putObj_size]at hh;exact hh)⟩,s1,L1,ao,fun t=>(au t).lq (Lq.put (B:=S+1) (Nat.le_refl _) G rfl)⟩
 refine wpIn_mono (hB _ _ _ _ _ an _ (S+1) m a1 _ al) fun ex a3 X3 ⟨he,_,_,L3,V,aE⟩=>?_;subst he;have I:X3.heap[S+1]?=some (.loop {lo with state:=.busy}):=(V.kept (S+1) (by show S+1 <(X.putObj (S+1) _).heap.size;rw[World.putObj_size];exact O) af).trans (World.putObj_heap_same O)
 have aq:ar γ (bv κ fr L X (List.range fr.length)) r2 L3 (X3.putObj (S+1) (.loop lo)):=by
  refine V.zl (W1:=X) ⟨rfl,rfl,rfl,World.putObj_size.symm,fun b=>?_⟩ (Lq.put hγ I rfl) fun k hk hx=>?_
  ·by_cases ad:b=S+1
   ·subst ad;exact .inr ⟨hγ,_,World.putObj_heap_same O,rfl⟩
   ·exact .inl (World.putObj_heap_other ad).symm
  ·by_cases z:k=S+1
   ·subst z;rw[World.putObj_heap_same (Array.getElem?_eq_some_iff.1 I).1];exact h.ep.symm
   ·rw[World.putObj_heap_other z,V.kept k hk hx];exact World.putObj_heap_other z
 obtain⟨b1,b2,b3,b4⟩:=h.core.back List.nodup_range hb aq aw
 have r4:eg γ κ T S lo lo.tmps ds (cF (cA (List.range fr.length) r2) env) (back (List.range fr.length) fr r2) (dV (List.range fr.length) fr.length L L3) (X3.putObj (S+1) (.loop lo)):=
  ⟨b1,fun t=>b2.env (h.env t),fun x v hx=>b2.vr (h.cap x v hx),h.marks.tr h.core b2,World.putObj_heap_same (Array.getElem?_eq_some_iff.1 I).1,(b2.same S (by omega) (h.core.mark hS h.j3 rfl)).2.trans h.j3⟩
 have Z:∀j v,κ.L j=some v->j <fr.length:=fun j v hj=>by
  obtain⟨lb,q1,_⟩:=h.core.hand j v hj;exact aC q1
 have fin:∀(Q:Out),Q≠.normal->∃v w',(Instr.endRound (S+1) (some Q.code)).run g.P X3=.ok v w'/\v=.bool false/\eg γ κ T S {lo with state:=.done,pending:=some Q.code} lo.tmps ds (cF (cA (List.range fr.length) r2) env) (back (List.range fr.length) fr r2) (dV (List.range fr.length) fr.length L L3) w':=fun Q _=>by
  refine⟨_,_,run_endRound (some Q.code) I,rfl,?_⟩;have:=r4.put (lo':={lo with state:=.done,pending:=some Q.code}) hS
  have e:(X3.putObj (S+1) (.loop lo)).putObj (S+1) (.loop {lo with state:=.done,pending:=some Q.code})=X3.putObj (S+1) (.loop {lo with state:=.done,pending:=some Q.code}):=by
   simp[World.putObj]
  rw[e]at this;exact this
 cases Q with
 |normal=>
  simp only at hr;cases hr;have:=run_endRound (P:=g.P) none I;refine⟨_,_,this,.inl ⟨rfl,rfl,?_⟩⟩;have e:({{lo with state:=.busy}with state:=if(none:Option Code).isNone then .ready else .done,pending:=none}:Loop)=lo:=Loop.Gq h1 h2;rw[e];exact r4.head Z
 |exit id=>
  simp only at hr;cases hr;obtain⟨v,w',q1,rfl,q2⟩:=fin (.exit id) (by simp);exact⟨_,w',q1,.inr ⟨by simp,rfl,_,q2⟩⟩
 |ret=>
  simp only at hr;cases hr;obtain⟨v,w',q1,rfl,q2⟩:=fin .ret (by simp);exact⟨_,w',q1,.inr ⟨by simp,rfl,_,q2⟩⟩
def Gg{g:Cfg}{n dn:Nat}{lv:Option (List Nat)}{Aa B:Env->Fr->Option (Out×Env×Fr)}{op:Operand}{Z:Array Tmp}{asg body:Code}{a:Act}{gf:Nat}{lb:Array Value}{yss:List (List AV)}{wh:Bool}{o:Out}{env':Env}{fr':Fr}
  (hA:∀env fr o env' fr',Aa env fr=some (o,env',fr')->∀κ l dn a w,At γ κ n env fr a w->asg.wpIn (Fw (some l)) dn g.P (jf γ κ n o env' fr') a w)
  (hB:∀env fr o env' fr',B env fr=some (o,env',fr')->∀κ l dn a w,At γ κ n env fr a w->body.wpIn (Fw (some l)) dn g.P (jf γ κ n o env' fr') a w)
  (am:∀p∈Z.toList,p <n)(hg:a.eval op=.func (.func gf) #[] lb)(Q:oB γ g.P gf lb T yss wh)(h:iB lv Aa B Z.toList wh yss env fr=some (o,env',fr'))
  (hfl:¬κ.H κ.W.heap.size)(hd:Marks κ w a.defers)(hn:a.tmps.size=n)(hC:ar γ κ fr L w)(hV:∀t,SR (MA κ.M fr L) L w (env t) (a.tmps.getD t undef))(ad:∀x v,T x v->VR (MA κ.M fr L) w x v):
  (Code.rangeFunc op Z asg body).wpIn (Fw none) dn g.P (jf γ κ n o env' fr') a w:=by
 refine wpIn_rangeFunc fun fn _=>?_;obtain⟨hk,Q⟩:=Q;obtain⟨lo,u⟩:∃lo:Loop,lo={state:=.ready,pending:=none,fn,tmps:=a.tmps,params:=Z,assign:=asg,body,defers:=w.heap.size}:=⟨_,rfl⟩;have V:κ.W.heap.size<=w.heap.size:=hC.size;have U:lo.tmps=a.tmps:=by rw[u]
 have J:Below w.heap.size w ((w.alloc (.deferred (some []))).alloc (.loop lo)):=((Below.refl _ w).alloc (Nat.le_refl _) _).alloc (by simp) _
 have r1:eg γ κ T w.heap.size lo lo.tmps a.defers env fr L ((w.alloc (.deferred (some []))).alloc (.loop lo)):=by
  refine⟨hC.later J,fun t=>?_,fun x v hx=>(ad x v hx).later J,hd.below J,?_,?_⟩
  ·rw[U];exact(hV t).later J
  ·have:=World.alloc_heap_new (w.alloc (.deferred (some []))) (.loop lo);rwa[World.size_alloc]at this
  ·exact(Below.heap_alloc _ _ _ (by simp)).trans (World.alloc_heap_new w _)
 have O:∀{G:Ls} {lo':Loop} {e:Env} {r:Fr} {Y:World},eg γ κ T w.heap.size lo' lo.tmps a.defers e r G Y->At γ κ n e r {a with defers:=[{target:=.collected w.heap.size,args:=#[]}]++a.defers} (Y.putObj (w.heap.size+1) (.loop {lo' with state:=.exhausted})):=fun{G lo' e r Y} hr=>by
  have h1:=hr.put (lo':={lo' with state:=.exhausted}) V;refine⟨?_,hn,G,h1.core,fun t=>?_⟩
  ·obtain⟨⟨Ds,n1,n2,n3⟩,_⟩:=h1.marks;obtain⟨⟨af,m1,m2,m3⟩,_⟩:=hd
   have ak:Ds=af:=by
    have:=n2.symm.trans m2;exact List.map_inj_right (fun x y ao=>by simpa using ao)|>.1 this
   subst ak;refine⟨⟨w.heap.size::Ds,List.nodup_cons.2 ⟨fun hm=>?_,n1⟩,?_,fun D hD=>?_⟩,fun hh=>absurd hh hfl⟩
   ·have:=(Array.getElem?_eq_some_iff.1 (m3 _ hm).2).1;omega
   ·show _::a.defers=_
    rw[n2];rfl
   ·rcases List.mem_cons.1 hD with rfl|hD
    ·exact⟨V,h1.j3⟩
    ·exact n3 D hD
  ·have:=h1.env t;rw[U]at this;exact this
 refine⟨w.heap.size+1,[{target:=.collected w.heap.size,args:=#[]}],(w.alloc (.deferred (some []))).alloc (.loop lo),{target:=.fn (.func gf) lb,args:=#[.func (.yield (w.heap.size+1)) #[] #[]]},(w.alloc (.deferred (some []))).alloc (.loop lo),gf,#[.func (.yield (w.heap.size+1)) #[] #[]]++lb,(w.alloc (.deferred (some []))).alloc (.loop lo),?_,?_,fun _ _=>trivial,?_,(fun hh=>by cases hh),?_⟩
 ·rw[u];exact run_enterLoop_outer _ _ _ _ _
 ·simp only[resolve,hg];simp[go_sem]
 ·simp[invoke,go_sem,zP hk]
 ·refine(Q (w.heap.size+1) (fun q A X=>∃e r G,iB lv Aa B Z.toList wh q e r=some (o,env',fr')/\A=MA κ.M r G/\eg γ κ T w.heap.size lo lo.tmps a.defers e r G X)
   (fun X=>o≠.normal/\∃G,eg γ κ T w.heap.size {lo with state:=.done,pending:=some o.code} lo.tmps a.defers env' fr' G X) _ _ ?_ ?_ ?_ ?_ ?_ ⟨env,fr,L,h,rfl,r1⟩ (dn - 1)).mono ?_
  ·rintro q A X Y ⟨e,r,G,I,q2,z⟩ hb;exact⟨e,r,G,I,q2,z.below hb⟩
  ·rintro X Y ⟨I,G,z⟩ hb;exact⟨I,G,z.below hb⟩
  ·rintro q A X ⟨e,r,G,I,rfl,z⟩;exact⟨z.core.pure _ fun b hb=>⟨z.core.fresh b (Nat.le_trans z.core.size hb),fun ho=>by have:=(z.core.own ho).1;omega⟩,z.cap⟩
  ·rintro an A X ⟨e,r,G,I,_⟩;subst an;cases I
  ·rintro y q A us X ⟨e,r,G,I,rfl,z⟩ hus hv m;unfold iB at I
   have go:∀{o1:Out} {e1:Env} {f1:Fr},iZ lv Aa B Z.toList y e r=some (o1,e1,f1)->YieldAt (Fw none) m g.P (w.heap.size+1) us X _:=fun{o1 e1 f1} hr=>
    GS (lo:=lo) (asg:=asg) (body:=body) hA hB (by rw[u];exact am) V (by rw[u]) (by rw[u]) (by rw[u]) (by rw[u]) (by rw[u];exact hn) z (by rw[u];exact hr) hus hv m
   split at I
   ·rename_i e1 f1 hr;obtain⟨fn,tmps,ag,bd,y1,y2⟩:=go hr;refine⟨fn,tmps,ag,bd,y1,y2.mono ?_⟩;rintro en Y (⟨_,z1,L2,z2⟩|⟨z0,_⟩)
    ·exact .inl ⟨z1,_,_,_,_,I,rfl,z2⟩
    ·exact absurd rfl z0
   ·rename_i al;obtain⟨fn,tmps,ag,bd,y1,y2⟩:=go I;refine⟨fn,tmps,ag,bd,y1,y2.mono ?_⟩;rintro en Y (⟨z0,_⟩|⟨z0,z1,L2,z2⟩)
    ·subst z0;exact absurd I (al _ _)
    ·exact .inr ⟨z1,z0,L2,z2⟩
  ·rintro en Y ⟨⟨v,rfl⟩,⟨hwh,A',e,r,G,I,_,z⟩|⟨I,G,z⟩⟩
   ·subst hwh;cases I;have:=run_endLoop (P:=g.P) z.ep (by rw[u];simp);have hp:lo.pending=none:=by rw[u]
    refine⟨lo.pending,_,this,?_⟩;split
    ·exact⟨rfl,O z⟩
    ·rename_i hc;rw[hp]at hc;cases hc
   ·have:=run_endLoop (P:=g.P) z.ep (by simp);refine⟨some o.code,_,this,?_⟩
    cases o with
    |normal=>exact absurd rfl I
    |exit id=>exact wpIn_exit ⟨rfl,O z⟩
    |ret=>exact wpIn_ret ⟨rfl,O z⟩
end
section
variable {g:Cfg} {γ:Glob} {κ:Ctx} {C:CallF} {Lp:LoopF} {n:Nat}
def tU(ag:g.P.follows .mixedOrders=true)(hS:c7 g.P γ C)(hL:oC g γ Lp)(hQ:∀(gf:Nat) (xs:List AV) (yss:List (List AV)) (wh:Bool),g.seq gf xs=some (yss,wh)->∀(lb:Array Value),lb.size=xs.length->oB γ g.P gf lb (ow xs lb) yss wh){f:Nat}:∀(c:Code) (env:Env) (fr:Fr) (o:Out) (env':Env) (fr':Fr),ba g f C Lp c env fr=some (o,env',fr')->eQ g f n c=true->∀(κ:Ctx) (rd:Option Nat) (dn:Nat) (a:Act) (w:World),((rd=none/\¬κ.H κ.W.heap.size)\/dk c=true)->At γ κ n env fr a w->c.wpIn (Fw rd) dn g.P (jf γ κ n o env' fr') a w:=by
 intro c
 induction c with
 |skip=>intro env fr o env' fr' h _ κ rd dn a w G O;unfold ba at h;cases h;exact wpIn_skip ⟨rfl,O⟩
 |exit id=>intro env fr o env' fr' h _ κ rd dn a w G O;unfold ba at h;cases h;exact wpIn_exit ⟨rfl,O⟩
 |ret=>intro env fr o env' fr' h _ κ rd dn a w G O;unfold ba at h;cases h;exact wpIn_ret ⟨rfl,O⟩
 |region id ops ao=>
  intro env fr o env' fr' h u κ rd dn a w G O;unfold ba at h;unfold eQ at u;rw[Bool.and_eq_true]at u;obtain⟨h1,h2,L,I,J⟩:=O;split at h
  ·rename_i e r z;cases h;unfold ju at z
   cases ao with
   |false=>
    simp only at z;split at z
    ·have:=yT (rd:=rd) (dn:=dn) hS (ops:=ops) (n:=n) (κ:=κ) (Q:=jf γ κ n .normal env' fr') (env':=env') (fr':=fr') u.1 (fun L a w hd V I J=>⟨rfl,hd,V,L,I,J⟩) ops.toList 0 env fr L a w (fun o ho=>ho) z h1 h2 I J;exact wpIn_region_lit (l:=ops.toList) (by simpa using this)
    ·rename_i k _ _;unfold oW at z;split at z
     ·cases z
     ·rename_i e1 r1 aw;split at z
      ·cases z
      ·rename_i o l hl;split at z
       ·cases z
       ·rename_i hg;split at z
        ·cases z
        ·rename_i x r2 hB;have al:∀o'∈o::l,o'∈ops.toList:=fun o' ad=>List.mem_of_mem_drop (by rw[hl];exact ad)
         have aB:=FR (rd:=rd) (dn:=dn) hS (ops:=ops) (n:=n) (κ:=κ) (Q:=jf γ κ n .normal env' fr') (env':=e1) (fr':=r1) (l2:=o::l) u.1 (fun L a w hd V I J=>by
          unfold wpListIn;rw[if_pos (by simp[Region.wanted,hg])];refine(BV hB κ L a w I (fun y _=>j4 J y)).wpIn fun v w' ⟨L',hT,aE,hv⟩=>?_;refine yT (rd:=rd) (dn:=dn) hS (ops:=ops) (n:=n) (κ:=κ) (Q:=jf γ κ n .normal env' fr') (env':=env') (fr':=fr') u.1 (fun L a w hd V I J=>⟨rfl,hd,V,L,I,J⟩) l (k+1) _ _ L' _ _ (fun o' ad=>al o' (by simp[ad])) z (by rw[put_defers];exact hd.tr I hT) (by rw[dz,V]) aE ?_;exact iY (fun t=>hT.env (J t)) hv fun q hq=>by rw[V];exact gD u.1 (al o (by simp)) hq) (ops.toList.take k) 0 env fr L a w (fun o' ad=>List.mem_of_mem_take ad) aw h1 h2 I J
         rw[<- hl,List.take_append_drop]at aB;exact wpIn_region_lit (l:=ops.toList) (by simpa using aB)
   |true=>
    match hm:lS (g.eff f id)with
    |0=>
     have D:=u.2;simp only[hm]at z D;obtain⟨E,F,a1,a2,a3,a4,a5⟩:=yU ops.toList 0 env fr z
     have hE:Steps g C ops (g.eff f id) E F:=fun i o ho=>by
      have:=a3 i o (by rw[Array.getElem?_toList];exact ho);rwa[Nat.zero_add]at this
     rw[Array.length_toList]at a4 a5;refine wpIn_region_any ag (Je (n:=n) (κ:=κ) (E:=E) (F:=F) hS (C3 D) u.1 hE (fun L a w hd V I J=>⟨rfl,hd,V,L,by rw[<- a5];exact I,by rw[<- a5,<- a4];exact J⟩) _ 0 L _ a _ ?_ (fj.start h1 h2 ?_ fun t=>?_))
     ·unfold dR;exact Nat.le_trans (List.countP_le_length) (by simp)
     ·rw[a2];exact I.later (Below.drew (Below.refl _ _))
     ·rw[a1,a2];exact(J t).later (Below.drew (Below.refl _ _))
    |1=>
     have D:=u.2;simp only[hm]at z D;obtain⟨E,F,a1,a2,a3,a4,a5⟩:=px ops.toList 0 env fr z
     have hE:gq g C ops (g.eff f id) E F:=fun i o ho=>by
      have:=a3 i o (by rw[Array.getElem?_toList];exact ho);rwa[Nat.zero_add]at this
     rw[Array.length_toList]at a4 a5;refine wpIn_region_any ag (Jg (n:=n) (κ:=κ) (E:=E) (F:=F) hS (w6 D) u.1 hE (fun L a w hd V I J=>⟨rfl,hd,V,L,by rw[<- a5];exact I,by rw[<- a5,<- a4];exact J⟩) _ 0 L _ a _ ?_ (cq.start h1 h2 ?_ fun t=>?_))
     ·unfold dR;exact Nat.le_trans (List.countP_le_length) (by simp)
     ·rw[a2];exact I.later (Below.drew (Below.refl _ _))
     ·rw[a1,a2];exact(J t).later (Below.drew (Below.refl _ _))
    |3=>simp only[hm]at z;cases z
    |4=>
     have D:=u.2;simp only[hm]at z D;refine wpIn_region_any ag (Gv (n:=n) (κ:=κ) (L:=L) hS D u.1 z (fun L a w hd V I J=>⟨rfl,hd,V,L,I,J⟩) h1 h2 (I.later (Below.drew (Below.refl _ _))) fun t=>(J t).later (Below.drew (Below.refl _ _)))
    |2=>simp only[hm]at z;cases z
    |5=>
     have D:=u.2;simp only[hm]at z D;refine wpIn_region_any ag (Gw (n:=n) (κ:=κ) (L:=L) hS (w6 D) u.1 z (fun L a w hd V I J=>⟨rfl,hd,V,L,I,J⟩) h1 h2 (I.later (Below.drew (Below.refl _ _))) fun t=>(J t).later (Below.drew (Below.refl _ _)))
    |n+6=>simp only[hm]at z;cases z
  ·cases h
 |seq x y ak an=>
  intro env fr o env' fr' h u κ rd dn a w G O;unfold ba at h;unfold eQ at u;rw[Bool.and_eq_true]at u;have Z:(rd=none/\¬κ.H κ.W.heap.size)\/dk x=true:=G.imp (fun q=>q) fun q=>by unfold dk at q;rw[Bool.and_eq_true]at q;exact q.1
  have af:(rd=none/\¬κ.H κ.W.heap.size)\/dk y=true:=G.imp (fun q=>q) fun q=>by unfold dk at q;rw[Bool.and_eq_true]at q;exact q.2
  split at h
  ·rename_i e r hx;refine wpIn_seq (wpIn_mono (ak _ _ _ _ _ hx u.1 κ rd dn a w Z O) fun ex a' w' ⟨z,U⟩=>?_);subst z;exact an _ _ _ _ _ h u.2 κ rd dn a' w' af U
  ·rename_i am;refine wpIn_seq (wpIn_mono (ak _ _ _ _ _ h u.1 κ rd dn a w Z O) fun ex a' w' ⟨z,U⟩=>?_);subst z
   cases o with
   |normal=>exact absurd h (am _ _)
   |exit id=>exact⟨rfl,U⟩
   |ret=>exact⟨rfl,U⟩
 |cond c x y ak an=>
  intro env fr o env' fr' h u κ rd dn a w G O;unfold ba at h;unfold eQ at u;rw[Bool.and_eq_true]at u;have U:=O;have Z:(rd=none/\¬κ.H κ.W.heap.size)\/dk x=true:=G.imp (fun q=>q) fun q=>by unfold dk at q;rw[Bool.and_eq_true]at q;exact q.1
  have af:(rd=none/\¬κ.H κ.W.heap.size)\/dk y=true:=G.imp (fun q=>q) fun q=>by unfold dk at q;rw[Bool.and_eq_true]at q;exact q.2
  obtain⟨_,_,L,I,J⟩:=U;have hc:=bG (j4 J c);split at h
  ·rename_i hr;rw[hr]at hc;exact wpIn_cond_split (jC hc) (fun _=>ak _ _ _ _ _ h u.1 κ rd dn a w Z O) (fun e=>by cases e)
  ·rename_i hr;rw[hr]at hc;exact wpIn_cond_split (jC hc) (fun e=>by cases e) (fun _=>an _ _ _ _ _ h u.2 κ rd dn a w af O)
  ·cases h
 |block id b ih=>
  intro env fr o env' fr' h u κ rd dn a w G O;unfold ba at h;unfold eQ at u;split at h
  ·rename_i i e r hx;refine wpIn_block (wpIn_mono (ih _ _ _ _ _ hx u κ rd dn a w (G.imp (fun q=>q) fun q=>by unfold dk at q;exact q) O) fun ex a' w' ⟨z,U⟩=>?_);subst z;simp only[Out.AD,Exit.inBlock];split at h
   ·rename_i hi;cases h;rw[if_pos (by simpa using hi)];exact⟨rfl,U⟩
   ·rename_i hi;cases h;rw[if_neg (by intro e;subst e;simp at hi)];exact⟨rfl,U⟩
  ·rename_i am;refine wpIn_block (wpIn_mono (ih _ _ _ _ _ h u κ rd dn a w (G.imp (fun q=>q) fun q=>by unfold dk at q;exact q) O) fun ex a' w' ⟨z,U⟩=>?_);subst z
   cases o with
   |normal=>exact⟨rfl,U⟩
   |exit i=>exact absurd h (am _ _ _)
   |ret=>exact⟨rfl,U⟩
 |loop b ih=>
  intro env fr o env' fr' h u κ rd dn a w G O;unfold ba at h;unfold eQ at u;have h1:=At.own (env:=env) (fr:=fr) (g.own f (ck b)) env fr O;exact hL _ _ _ _ _ _ _ h n u κ rd dn a w (G.imp (fun q=>q) fun q=>by unfold dk at q;exact q) (h1.head h1.handed)
 |rangeFunc op ps asg body a7 a_=>
  intro env fr o env' fr' h u κ rd dn a w G O;obtain⟨rfl,aV⟩:rd=none/\¬κ.H κ.W.heap.size:=G.resolve_right (by unfold dk;simp);unfold ba at h;unfold eQ at u;rw[Bool.and_eq_true,Bool.and_eq_true,Bool.and_eq_true,Bool.and_eq_true]at u;obtain⟨⟨⟨⟨w1,w2⟩,w3⟩,w4⟩,w5⟩:=u;split at h
  ·rename_i gf bs au;split at h
   ·cases h
   ·rename_i cs aU;split at h
    ·cases h
    ·rename_i yss wh a6;obtain⟨d1,d2,L,I,J⟩:=O;obtain⟨fs,lb,hv,aM,aN,bb,aQ⟩:=wK au (bG (j4 J op));obtain⟨aJ,aq,aL⟩:=I.jw (bg fr bs);obtain⟨p1,p2⟩:=mr I aL _ _ aU (kZ I);have aY:fs=#[]:=Array.eq_empty_of_size_eq_zero (by rw[<- aM];rfl);subst aY;refine Gg (fun env fr o env' fr' h κ l dn a w O=>a7 _ _ _ _ _ h w1 κ (some l) dn a w (.inr w3) O) (fun env fr o env' fr' h κ l dn a w O=>a_ _ _ _ _ _ h w2 κ (some l) dn a w (.inr w4) O) (fun p hp=>by simpa[Nat.blt_eq]using List.all_eq_true.1 w5 p hp) hv (hQ _ _ _ _ a6 lb (by rw[<- aN,p1])) (T:=ow cs lb) h aV (d1.tr I aq) d2 aJ (fun t=>aq.sr (J t)) fun x v ⟨j,hx,hu⟩=>?_;obtain⟨s,hs⟩:=av (xs:=bs) (k:=j) (by rw[p1];exact aC hx);exact p2 j s x v hs hx (aQ j s v hs hu)
  ·cases h
 |_=>intro env fr o env' fr' h;unfold ba at h;cases h
def E9{P:Program}{A:Nat->Prop}{L:Ls}{w:World}{fr:Fr}{t:Nat}{s x:SV}{v:Value}(h:eK P fr t s=some x)(hs:SR A L w s v):∃a,v=.pointer (some a):=by
 unfold eK at h;split at h
 ·cases h
 ·split at h
  ·obtain⟨b,o,u,rfl,_⟩:=ns hs;exact⟨_,rfl⟩
  ·obtain⟨b,_,rfl⟩:=kj hs;exact⟨_,rfl⟩
  ·obtain⟨b,m,c,_,rfl⟩:=l8 hs;exact⟨_,rfl⟩
  ·obtain⟨_,b,m,c,_,_,rfl⟩:=qT hs;exact⟨_,rfl⟩
  ·cases h
def vh(tmps:Array Value):ResultVar->Sem Value
 | .tmp t=>pure (tmps.getD t undef)
 | .cell a t=>do loadVar t (<- asAddr (tmps.getD a undef))
def Gy(fn:Func)(tmps:Array Value):results fn tmps=(do let vs <- fn.results.mapM (vh tmps);pure (if h:vs.size=1 then vs[0]else .tuple vs)):=by
 unfold results;congr 2
def Gx{P:Program}{γ:Glob}{κ:Ctx}{fr:Fr}{L:Ls}{w:World}{env:Env}{tmps:Array Value}(G:ar γ κ fr L w)(y:∀t,SR (MA κ.M fr L) L w (env t) (tmps.getD t undef)){r:ResultVar}{q:Nat×Option Nat}{x:SV}(hq:eu [r]=[q])(hx:yW P env fr q=some x):∃v,(vh tmps r).run P w=.ok v w/\SR (MA κ.M fr L) L w x v:=by
 cases r with
 |tmp t=>unfold eu eu at hq;cases hq;cases hx;exact⟨_,rfl,y t⟩
 |cell a T=>
  unfold eu eu at hq;cases hq;have hx:eK P fr T (un (env a))=some x:=hx;have z:=mw (y a);obtain⟨I,D⟩:=E9 hx z;obtain⟨u,h1,h2⟩:=yg G hx z;refine⟨u,?_,h2⟩;rw[D]at h1;show((asAddr (tmps.getD a undef))>>=fun d=>loadVar T d).run P w=_
  rw[D];simpa[Instr.loadAt,Instr.sureAddr,asAddr,Sem.run_bind]using h1
def zn{P:Program}{γ:Glob}{κ:Ctx}{fr:Fr}{L:Ls}{w:World}{env:Env}{fn:Func}{tmps:Array Value}{x:SV}(hC:ar γ κ fr L w)(hV:∀t,SR (MA κ.M fr L) L w (env t) (tmps.getD t undef))(h:mj P env fr (eu fn.results.toList)=some x)(ak:fn.results.size<=4):
  ∃v,(results fn tmps).run P w=.ok v w/\SR (MA κ.M fr L) L w x v:=by
 have ad:∀(l:List ResultVar) (xs:List SV),pz P env fr (eu l)=some xs->∃I:List Value,I.length=l.length/\xs.length=l.length/\∀(j:Nat) (r:ResultVar) (x:SV) (v:Value),l[j]?=some r->xs[j]?=some x->I[j]?=some v->(vh tmps r).run P w=.ok v w/\SR (MA κ.M fr L) L w x v:=fun l=>by
  induction l with
  |nil=>intro xs h;unfold eu pz at h;cases h;exact⟨[],rfl,rfl,fun j r x v Q=>by simp at Q⟩
  |cons r l ih=>
   intro xs h;have hc:∃q,eu [r]=[q]/\eu (r::l)=q::eu l:=by cases r <;>exact⟨_,rfl,rfl⟩
   obtain⟨q,hq,hc⟩:=hc;rw[hc]at h;unfold pz at h;split at h
   ·cases h
   ·rename_i x0 al;split at h
    ·cases h
    ·rename_i ao an;cases h;obtain⟨G,e1,e2⟩:=Gx hC hV hq al;obtain⟨I,V,Z,D⟩:=ih _ an;refine⟨G::I,by simp[V],by simp[Z],fun j r' x v Q y z=>?_⟩
     cases j with
     |zero=>cases Q;cases y;cases z;exact⟨e1,e2⟩
     |succ j=>exact D j r' x v Q y z
 unfold mj at h;have ag:fn.results.toList.length<=4:=by simpa using ak
 have af:fn.results=fn.results.toList.toArray:=by simp
 rw[Gy];generalize fn.results.toList=l at*
 rw[af];have aL:∀(xs:List SV) (I:List Value),I.length=xs.length->(∀(j:Nat) (x:SV) (v:Value),xs[j]?=some x->I[j]?=some v->SR (MA κ.M fr L) L w x v)->SR (MA κ.M fr L) L w (.aL xs) (.tuple I.toArray):=fun xs I hl Q=>.aL _ _ (by simpa using hl) fun j x u y hu=>Q j x u y (by simpa using hu);split at h
 ·cases h
 ·rename_i x0 y;cases h;obtain⟨I,V,Z,D⟩:=ad l _ y
  match l,I,V,Z,D with
  |[r],[v],_,_,D=>
   obtain⟨g1,g2⟩:=D 0 r x v rfl rfl rfl;exact⟨v,by simp[Sem.run_bind,g1],g2⟩
 ·rename_i xs am y;cases h;obtain⟨I,V,Z,D⟩:=ad l _ y
  match l,I,xs,V,Z,D,ag with
  |[],[],[],_,_,_,_=>exact⟨.tuple #[],by simp[Sem.run_bind],aL [] [] rfl fun j x v y=>by simp at y⟩
  |[r],[v],[x],_,_,D,_=>exact absurd rfl (am x)
  |[r0,r1],[G,v1],[x0,x1],_,_,D,_=>
   have J:=D 0 r0 x0 G rfl rfl rfl;have O:=D 1 r1 x1 v1 rfl rfl rfl
   exact⟨.tuple #[G,v1],by simp[Sem.run_bind,J.1,O.1],aL [x0,x1] [G,v1] rfl fun j x v y z=>by
    match j,y,z with
    |0,y,z=>cases y;cases z;exact J.2
    |1,y,z=>cases y;cases z;exact O.2⟩
  |[r0,r1,r2],[G,v1,v2],[x0,x1,x2],_,_,D,_=>
   have J:=D 0 r0 x0 G rfl rfl rfl;have O:=D 1 r1 x1 v1 rfl rfl rfl;have U:=D 2 r2 x2 v2 rfl rfl rfl
   exact⟨.tuple #[G,v1,v2],by simp[Sem.run_bind,J.1,O.1,U.1],aL [x0,x1,x2] [G,v1,v2] rfl fun j x v y z=>by
    match j,y,z with
    |0,y,z=>cases y;cases z;exact J.2
    |1,y,z=>cases y;cases z;exact O.2
    |2,y,z=>cases y;cases z;exact U.2⟩
  |[r0,r1,r2,r3],[G,v1,v2,v3],[x0,x1,x2,x3],_,_,D,_=>
   have J:=D 0 r0 x0 G rfl rfl rfl;have O:=D 1 r1 x1 v1 rfl rfl rfl;have U:=D 2 r2 x2 v2 rfl rfl rfl;have a3:=D 3 r3 x3 v3 rfl rfl rfl
   exact⟨.tuple #[G,v1,v2,v3],by simp[Sem.run_bind,J.1,O.1,U.1,a3.1],aL [x0,x1,x2,x3] [G,v1,v2,v3] rfl fun j x v y z=>by
    match j,y,z with
    |0,y,z=>cases y;cases z;exact J.2
    |1,y,z=>cases y;cases z;exact O.2
    |2,y,z=>cases y;cases z;exact U.2
    |3,y,z=>cases y;cases z;exact a3.2⟩
def Iu{z:Fr}{L:Ls}{w:World}{r:SV}{x:AV}{v:Value}(y:ar γ κ z L w)(I:∀(j:Nat) (v:Value),κ.L j=some v->False)(hx:fJ z deep r=some x)(hr:SR (MA κ.M z L) L w r v):∃L',ar γ κ [] L' w/\SR (MA κ.M [] L') L' w (.t x) v:=by
 have O:∀b,κ.M b->MA κ.M [] (fun _=>none) b:=fun b D=>⟨D,fun⟨i,v,U,h,_⟩=>by cases h⟩;refine⟨fun _=>none,?_,.t _ _ ((lx y (A:=MA κ.M [] (fun _=>none)) (fun b D=>O b D.1) deep).1 r x v hx (fun i _ u b Q J=>?_) hr)⟩
 ·exact{
   bN:=y.bN
   gn:=y.gn
   gx:=y.gx
   fresh:=y.fresh
   os:=y.os
   tape:=y.tape
   output:=y.output
   size:=y.size
   kept:=y.kept
   lim:=fun i v h=>by cases h
   new:=fun i v b U h=>by cases h
   bW:=fun i j v V b h=>by cases h
   hand:=fun j v h=>(I j v h).elim
   blk:=fun i U h=>by cases h}
 ·have G:=y.lim i u Q;exact O b (y.new i u b z[i] Q J (List.getElem?_eq_getElem G)).2.1
def Is{b:Bool}{m:Nat}{o:Option (SV×Fr)}{r:SV}{fr':Fr}(h:kJ b m o=some (r,fr')):o=some (r,fr')\/(m=0/\fr'=[]/\∃v u x,o=some (v,u)/\fJ u deep v=some x/\r=.t x):=by
 unfold kJ at h;split at h
 ·exact .inl h
 ·split at h
  ·cases h
  ·rename_i v u;split at h
   ·split at h
    ·rename_i x y;cases h;exact .inr ⟨rfl,rfl,v,u,x,rfl,y,rfl⟩
    ·exact .inl h
   ·exact .inl h
def ar.E5{fr:Fr}{L:Ls}{w:World}(h:ar γ κ fr L w):ar γ ⟨κ.M,κ.X,fun b=>κ.H b/\b <κ.W.heap.size,κ.W,κ.L⟩ fr L w where
 bN:=h.bN
 gn:=h.gn
 gx:=h.gx
 fresh:=h.fresh
 os:=h.os
 tape:=h.tape
 output:=h.output
 size:=h.size
 kept:=h.kept
 lim:=h.lim
 new:=fun i v b y h1 h2 h3=>by
  obtain⟨z,D,G,I⟩:=h.new i v b y h1 h2 h3;refine⟨z,D,?_,I⟩;rcases Nat.lt_or_ge b κ.W.heap.size with u|u
  ·exact G.imp (fun q=>q) fun q=>⟨q,u⟩
  ·exact .inl u
 bW:=h.bW
 hand:=h.hand
 blk:=h.blk
def ar.ID{fr:Fr}{L:Ls}{w:World}(h:ar γ ⟨κ.M,κ.X,fun b=>κ.H b/\b <κ.W.heap.size,κ.W,κ.L⟩ fr L w):ar γ κ fr L w where
 bN:=h.bN
 gn:=h.gn
 gx:=h.gx
 fresh:=h.fresh
 os:=h.os
 tape:=h.tape
 output:=h.output
 size:=h.size
 kept:=h.kept
 lim:=h.lim
 new:=fun i v b u h1 h2 h3=>by
  obtain⟨y,z,D,G⟩:=h.new i v b u h1 h2 h3;exact⟨y,z,D.imp (fun q=>q) fun q=>q.1,G⟩
 bW:=h.bW
 hand:=h.hand
 blk:=h.blk
def Cc{P:Program}{f:Nat}{args:List SV}{fr:Fr}{r:SV}{fr':Fr}(h:∀(κ:Ctx) (w:World) (us:Array Value),¬κ.H κ.W.heap.size->ar γ κ fr κ.L w->κ.W=w->us.size=args.length->(∀(j:Nat) (x:SV) (u:Value),args[j]?=some x->us[j]?=some u->SR (MA κ.M fr κ.L) κ.L w x u)->
  Calls P f us w fun e w'=>∃v L',e=.returned v/\ar γ κ fr' L' w'/\SR (MA κ.M fr' L') L' w' r v):∀(κ:Ctx) (w:World) (us:Array Value),ar γ κ fr κ.L w->κ.W=w->us.size=args.length->(∀(j:Nat) (x:SV) (u:Value),args[j]?=some x->us[j]?=some u->SR (MA κ.M fr κ.L) κ.L w x u)->
  Calls P f us w fun e w'=>∃v L',e=.returned v/\ar γ κ fr' L' w'/\SR (MA κ.M fr' L') L' w' r v:=fun κ w us z G y D=>
 (h ⟨κ.M,κ.X,fun b=>κ.H b/\b <κ.W.heap.size,κ.W,κ.L⟩ w us (fun h=>absurd h.2 (Nat.lt_irrefl _)) z.E5 G y D).mono fun _ _ ⟨v,L',h1,h2,h3⟩=>⟨v,L',h1,h2.ID,h3⟩
def Ce(hW:Wf g γ){m:Nat}(hS:c7 g.P γ (b9 g m))(hL:oC g γ (cN g m)):c7 g.P γ (b9 g (m+1)):=fun f z fr r fr' h=>by
 unfold b9 at h;split at h
 ·-- a contract
  split at h
  ·rename_i xs ao;obtain⟨hk,hc⟩:=hW.ext f xs r fr' h;refine⟨hk,fun κ w J V hw I hr=>?_⟩;obtain⟨p1,p2⟩:=mn (A:=MA κ.M [] κ.L) (L:=κ.L) (w:=w) ao
   exact hc κ w J V hw (by rw[I,p1]) fun j x u hx hu=>by
    obtain⟨s,hs⟩:=av (xs:=z) (k:=j) (by rw[p1];exact aC hx);exact p2 j s x u hs hx (hr j s u hs hu)
  ·exact hW.exh _ _ _ _ _ h
 ·rename_i am;split at h
  ·cases h
  ·rename_i fn O;split at h
   ·rename_i c hb;have G:=hW.nh f am;unfold ot at G;rw[O]at G;simp only[hb]at G;rw[Bool.and_eq_true,Bool.and_eq_true,Bool.not_eq_true',Nat.ble_eq]at G;obtain⟨⟨an,al⟩,af⟩:=G;split at h
    ·cases h
    ·rename_i ag;rw[Nat.ble_eq]at ag;refine⟨⟨fn,O,al,by rw[hb];rfl⟩,Cc fun κ w J ak V hw I hr=>callsIn_wide.1 (callsIn_of_wp_marks (F:=Fence.wide) (n:=0) O hb trivial ?_)⟩
     have hA:At γ κ fn.ntmps (mf z) fr {tmps:=J++Array.replicate (fn.ntmps - J.size) undef,defers:=[]} w:=by
      refine⟨Marks.nil,by simp[I];omega,κ.L,V,fun t=>?_⟩;show SR _ _ w (mf z t) _
      unfold mf
      cases hx:z[t]? with
      |none=>exact .dead _
      |some x=>
       have ht:t <J.size:=by rw[I];exact aC hx
       have h1:=hr t x J[t] hx (Array.getElem?_eq_getElem ht);show SR _ _ w x ((J++_).getD t undef)
       rw[Array.getD_eq_getD_getElem?,Array.getElem?_append_left ht,Array.getElem?_eq_getElem ht];exact h1
     have done:∀{o:Out} {e:Env} {q:Fr},ba g f (b9 g m) (cN g m) c (mf z) fr=some (o,e,q)->(o=.normal\/o=.ret)->kJ (g.tre f) fr.length (eH fr.length (mj g.P e q (eu fn.results.toList)) q)=some (r,fr')->Code.wpIn Fence.wide 0 g.P c (bodyPostM Fence.wide 0 g.P fn fun e w'=>∃v L',e=.returned v/\ar γ κ fr' L' w'/\SR (MA κ.M fr' L') L' w' r v) {tmps:=J++Array.replicate (fn.ntmps - J.size) undef,defers:=[]} w:=fun{o e q} D ho ad=>by
      refine wpIn_mono (tU hW.mixed hS hL hW.seq c _ _ _ _ _ D an κ none 0 _ w (.inl ⟨rfl,ak⟩) hA) fun ex a w' ⟨he,⟨⟨Ds,n1,n2,n3⟩,_⟩,h3,L,h4,h5⟩=>?_
      have aq:LeavesInM Fence.wide 0 g.P fn a.tmps (fun e w'=>∃v L',e=.returned v/\ar γ κ fr' L' w'/\SR (MA κ.M fr' L') L' w' r v) a.defers .returning w':=by
       rw[n2];refine ye Ds w' n1 n3 fun aw Z=>?_;rcases Is ad with y|⟨au,rfl,r1,ex,x,y,htx,rfl⟩
       ·unfold eH at y;split at y
        ·rename_i r0 Q;obtain⟨v,hv,U⟩:=zn (h4.lq Z) (fun t=>(h5 t).lq Z) Q af;obtain⟨L',f1,f2⟩:=xk (h4.lq Z) (fun j u hj=>V.lim j u hj) y U;exact⟨v,hv,v,L',rfl,f1,f2⟩
        ·cases y
       ·unfold eH at y;split at y
        ·rename_i r0 Q;obtain⟨v,hv,U⟩:=zn (h4.lq Z) (fun t=>(h5 t).lq Z) Q af;obtain⟨L',f1,f2⟩:=xk (h4.lq Z) (fun j u hj=>V.lim j u hj) y U;obtain⟨L2,f3,f4⟩:=Iu f1 (fun j u hj=>by have:=V.lim j u hj;omega) htx f2;exact⟨v,hv,v,L2,rfl,f3,f4⟩
        ·cases y
      rcases ho with rfl|rfl <;>(subst he;exact aq)
     split at h
     ·rename_i e q D;exact done D (.inl rfl) h
     ·rename_i e q D;exact done D (.inr rfl) h
     ·cases h
   ·cases h
def wpIn_loop_ghost{F:Fence}{dn:Nat}{P:Program}{Q:Exit->Act->World->Prop}{a:Act}{w:World}{c:Code}(I:Nat->Act->World->Prop)(G:Nat)(O:I G a w)
  (round:∀n a w,I n a w->c.wpIn F dn P (Exit.then (fun z w'=>∃y,y <n/\I y z w') Q) a w):(Code.loop c).wpIn F dn P Q a w:=by
 refine wpIn_loop (fun a w=>∃n,I n a w) (fun a w=>leastOf (fun n=>I n a w)) ⟨G,O⟩ ?_;intro a w J;refine wpIn_mono (round _ a w (leastOf_spec J).1) ?_;intro e z w' v
 cases e with
 |normal=>
  obtain⟨y,D,u⟩:=v;exact show(∃n,I n z w')/\leastOf (fun n=>I n z w')<leastOf (fun n=>I n a w) from⟨⟨y,u⟩,Nat.lt_of_le_of_lt ((leastOf_spec ⟨y,u⟩).2 y u) D⟩
 |exit id=>exact v
 |goto l=>exact v
 |ret=>exact v
 |panic U=>exact v
 |outgrown=>exact v
def Fc(hW:Wf g γ){m:Nat}(U:∀k,k <m->c7 g.P γ (b9 g k))(Q:∀k,k <m->oC g γ (cN g k)):oC g γ (cN g m):=fun f b env fr o v fr' h n D κ rd O a w z y=>by
 refine wpIn_loop_ghost (fun k a w=>k<=m/\∃env fr,cN g k f b env fr=some (o,v,fr')/\At γ κ n env fr a w) m ⟨Nat.le_refl _,env,fr,h,y⟩ fun k a w ⟨hk,env,fr,h,y⟩=>?_
 cases k with
 |zero=>unfold cN at h;cases h
 |succ k=>
  unfold cN at h;split at h
  ·rename_i e r I;refine wpIn_mono (tU hW.mixed (U k (by omega)) (Q k (by omega)) hW.seq b _ _ _ _ _ I D κ rd O a w z y) fun Z V w' ⟨G,u⟩=>?_;subst G;exact⟨k,Nat.lt_succ_self k,by omega,_,_,h,u.head y.handed⟩
  ·rename_i J;refine wpIn_mono (tU hW.mixed (U k (by omega)) (Q k (by omega)) hW.seq b _ _ _ _ _ h D κ rd O a w z y) fun Z V w' ⟨G,u⟩=>?_;subst G
   cases o with
   |normal=>exact absurd h (J _ _)
   |exit id=>exact⟨rfl,u⟩
   |ret=>exact⟨rfl,u⟩
def sound(hW:Wf g γ):∀m,c7 g.P γ (b9 g m)/\oC g γ (cN g m):=fun m=>by
 induction m using Nat.strongRecOn with
 |_ m ih=>
  have y:=Fc hW (fun k u=>(ih k u).1) (fun k u=>(ih k u).2)
  cases m with
  |zero=>exact⟨(fun f v fr r fr' h=>by unfold b9 at h;cases h),y⟩
  |succ m=>exact⟨Ce hW (ih m (Nat.lt_succ_self m)).1 (ih m (Nat.lt_succ_self m)).2,y⟩
end
def Jq{P:Program}{o:Oper}{c:Operand}{args:Array Operand}{tys:Array TypeId}{a:Act}{w:World}{l m:Nat}{R:Ending->World->Prop}{K:Act->World->Prop}{Q:Exit->Act->World->Prop}
  (ho:o.op=.call ⟨.value c,args,tys⟩)(hc:a.eval c=.func (.yield l) #[] #[])(hy:∀m,YieldAt (Fw none) m P l (args.map a.eval) w R)(z:∀e w',R e w'->∃v,e=.returned v/\K (a.put o.dst v) w'):o.wpIn (Fw none) m P a w K Q:=by
 refine⟨fun _ _=>trivial,?_⟩;obtain⟨fn,u,asg,body,h1,h2⟩:=hy (m - 1)
 have e:(o.semAt (Fw none).round a.eval).run P w=.ok (.round l fn u asg body) w:=by
  show(o.semAt none a.eval).run P w=_
  simp[Oper.semAt,execOp,ho,resolve,Deferred.ofValue,hc,invoke,Sem.run_bind,pure,Sem.run,callFunc,h1]
 rw[e];refine⟨(fun h=>by cases h),h2.mono ?_⟩;intro y w' G;obtain⟨v,rfl,D⟩:=z y w' G;exact D
def gl(C C':CallF):Prop:=∀f u fr x,C f u fr=some x->C' f u fr=some x
def sU(Lp Lp':LoopF):Prop:=∀f b env fr x,Lp f b env fr=some x->Lp' f b env fr=some x
section
variable {g:Cfg} {C C':CallF} {Lp Lp':LoopF}
def B7(h:gl C C'){G:Bool}{fr:Fr}{f:Nat}{args:List SV}{x:cT}(hx:fu g C G fr f args=some x):fu g C' G fr f args=some x:=by
 unfold fu at hx⊢;split at hx
 ·cases hx
 ·rename_i xs D
  try simp only[D]
  split at hx
  ·rename_i z
   try simp only[z]
   split at hx
   ·cases hx
   ·rename_i r I v;rw[h _ _ _ _ v];exact hx
  ·rename_i J O z
   try simp only[z]
   split at hx
   ·cases hx
   ·simp only at hx⊢;split at hx
    ·cases hx
    ·rename_i bs u
     try simp only[u]
     split at hx
     ·cases hx
     ·rename_i y
      try simp only[y]
      split at hx
      ·cases hx
      ·rename_i r fr' v;rw[h _ _ _ _ v];exact hx
def xc(h:gl C C'){u:Bool}{env:Env}{fr:Fr}{op:Op}{x:cT}(hx:bu g C u env fr op=some x):bu g C' u env fr op=some x:=by
 unfold bu at hx⊢;split at hx <;>first|exact hx|skip
 ·unfold jY at hx⊢;split at hx
  ·cases hx
  ·rename_i v
   try simp only[v]
   exact B7 h hx
def jO(h:gl C C'){d:Option (List Nat)}{i:Nat}{env:Env}{fr:Fr}{op:Op}{x:cT}(hx:step g C d i env fr op=some x):step g C' d i env fr op=some x:=by
 have u:∀{x},bJ g C env fr op=some x->bJ g C' env fr op=some x:=fun{x} hx=>by
  unfold bJ at hx⊢;split at hx
  ·exact xc h hx
  ·exact hx
 have v:∀{x},eX g C env fr op=some x->eX g C' env fr op=some x:=fun{x} hx=>by
  unfold eX at hx⊢;split at hx
  ·exact xc h hx
  ·exact hx
 unfold step at hx⊢;split at hx
 ·exact u hx
 ·split at hx
  ·exact u hx
  ·exact v hx
theorem js(h:gl C C'){d:Option (List Nat)}{ops:Array Oper}{x:Env×Fr}:∀(l:List Oper) (i:Nat) (env:Env) (fr:Fr),cH g C d ops i l env fr=some x->cH g C' d ops i l env fr=some x
 |[],_,_,_,u=>u
 |o::l,i,env,fr,u=>by
  unfold cH at u⊢;split at u
  ·split at u
   ·rename_i v;rw[jO h v];exact js h l _ _ _ u
   ·cases u
  ·split at u
   ·cases u
   ·rename_i y
    try simp only[y]
    split at u
    ·rename_i v;rw[jO h v];exact js h l _ _ _ u
    ·cases u
   ·rename_i y
    try simp only[y]
    exact js h l _ _ _ u
theorem iO(h:gl C C'){effs:List Nat}{ops:Array Oper}{x:Env×Fr}:∀(l:List Oper) (i:Nat) (env:Env) (fr:Fr),ei g C effs ops i l env fr=some x->ei g C' effs ops i l env fr=some x
 |[],_,_,_,u=>u
 |o::l,i,env,fr,u=>by
  unfold ei at u⊢;split at u
  ·cases u
  ·rename_i z
   try simp only[z]
   split at u
   ·split at u
    ·rename_i v;rw[jO h v];exact iO h l _ _ _ u
    ·cases u
   ·split at u
    ·cases u
    ·rename_i y
     try simp only[y]
     split at u
     ·rename_i v;rw[jO h v];exact iO h l _ _ _ u
     ·cases u
    ·rename_i y
     try simp only[y]
     exact iO h l _ _ _ u
def Dm(h:gl C C'){k:Nat}{ops:Array Oper}{env:Env}{fr:Fr}{x:Env×Fr}(hx:oW g C k ops env fr=some x):oW g C' k ops env fr=some x:=by
 unfold oW at hx⊢;split at hx
 ·cases hx
 ·rename_i z
  try simp only[js h _ _ _ _ z]
  split at hx
  ·cases hx
  ·rename_i y
   try simp only[y]
   split at hx
   ·cases hx
   ·rename_i v
    try simp only[v]
    split at hx
    ·cases hx
    ·rename_i u
     try simp only[u]
     exact js h _ _ _ _ hx
def Do(h:gl C C'){effs:List Nat}{ops:Array Oper}{env:Env}{fr:Fr}{x:Env×Fr}(hx:lU g C effs ops env fr=some x):lU g C' effs ops env fr=some x:=by
 unfold lU at hx⊢;split at hx
 ·cases hx
 ·split at hx
  ·cases hx
  ·rename_i u;simp only[iO h _ _ _ _ u];exact hx
def xb(h:gl C C'){env:Env}{fr:Fr}{op:Op}{x:cT}(hx:bJ g C env fr op=some x):bJ g C' env fr op=some x:=jO (d:=none) (i:=0) h hx
def Dp(h:gl C C'){m:Nat}{effs:List Nat}{ops:Array Oper}{env:Env}{fr:Fr}{x:Env×Fr}(hx:lV g C m effs ops env fr=some x):lV g C' m effs ops env fr=some x:=by
 unfold lV at hx⊢;split at hx
 ·cases hx
 ·rename_i D;simp only[iO h _ _ _ _ D];split at hx
  ·cases hx
  ·rename_i z
   try simp only[z]
   split at hx
   ·cases hx
   ·rename_i v
    try simp only[v]
    split at hx
    ·cases hx
    ·rename_i u
     try simp only[xb h u]
     split at hx
     ·rename_i y
      try simp only[y]
      exact iO h _ _ _ _ hx
     ·cases hx
def Dq(h:gl C C'){f id:Nat}{ops:Array Oper}{u:Bool}{env:Env}{fr:Fr}{x:Env×Fr}(hx:ju g f C id ops u env fr=some x):ju g f C' id ops u env fr=some x:=by
 unfold ju at hx⊢
 cases u with
 |false=>
  simp only at hx⊢;split at hx
  ·rename_i v
   try simp only[v]
   exact js h _ _ _ _ hx
  ·rename_i v
   try simp only[v]
   exact Dm h hx
 |true=>
  simp only at hx⊢;split at hx
  ·rename_i v
   try simp only[v]
   exact js h _ _ _ _ hx
  ·rename_i v
   try simp only[v]
   exact iO h _ _ _ _ hx
  ·rename_i v
   try simp only[v]
   exact Do h hx
  ·rename_i v
   try simp only[v]
   exact Dp h hx
  ·cases hx
def vm{lv:Option (List Nat)}{A B A' u:Env->Fr->Option (Out×Env×Fr)}(z:∀e r x,A e r=some x->A' e r=some x)(D:∀e r x,B e r=some x->u e r=some x){v:List Nat}{y:List AV}{env:Env}{fr:Fr}{x:Out×Env×Fr}(h:iZ lv A B v y env fr=some x):iZ lv A' u v y env fr=some x:=by
 unfold iZ at h⊢;split at h
 ·cases h
 rename_i h1
 try simp only[h1]
 split at h
 ·cases h
 rename_i h2
 try simp only[h2]
 split at h
 ·rename_i h3;rw[z _ _ _ h3];simp only;split at h
  ·cases h
  ·rename_i h4;rw[D _ _ _ h4];exact h
 ·cases h
theorem vn{lv:Option (List Nat)}{A B A' D:Env->Fr->Option (Out×Env×Fr)}(u:∀e r x,A e r=some x->A' e r=some x)(v:∀e r x,B e r=some x->D e r=some x){G:List Nat}{wh:Bool}:∀(yss:List (List AV)) (env:Env) (fr:Fr) (x:Out×Env×Fr),iB lv A B G wh yss env fr=some x->iB lv A' D G wh yss env fr=some x
 |[],env,fr,x,h=>h
 |y::I,env,fr,x,h=>by
  unfold iB at h⊢;split at h
  ·rename_i h1;rw[vm u v h1];exact vn u v I _ _ _ h
  ·rename_i z;rw[vm u v h];obtain⟨o,e,r⟩:=x
   cases o with
   |normal=>exact absurd h (z _ _)
   |exit id=>rfl
   |ret=>rfl
def gG(h:gl C C')(I:sU Lp Lp'){f:Nat}:∀(c:Code) (env:Env) (fr:Fr) (x:Out×Env×Fr),ba g f C Lp c env fr=some x->ba g f C' Lp' c env fr=some x:=by
 intro c
 induction c with
 |region id ops G=>
  intro env fr x u;unfold ba at u⊢;split at u
  ·rename_i e r Q;rw[Dq h Q];exact u
  ·cases u
 |seq a b v y=>
  intro env fr x u;unfold ba at u⊢;split at u
  ·rename_i e r J;rw[v _ _ _ J];exact y _ _ _ u
  ·rename_i z;rw[v _ _ _ u];obtain⟨o,e,r⟩:=x
   cases o with
   |normal=>exact absurd u (z _ _)
   |exit id=>rfl
   |ret=>rfl
 |cond c a b v y=>
  intro env fr x u;unfold ba at u⊢;split at u
  ·exact v _ _ _ u
  ·exact y _ _ _ u
  ·cases u
 |block id b D=>
  intro env fr x u;unfold ba at u⊢;split at u
  ·rename_i i e r O;rw[D _ _ _ O];exact u
  ·rename_i z;rw[D _ _ _ u];obtain⟨o,e,r⟩:=x
   cases o with
   |normal=>rfl
   |exit id=>exact absurd u (z _ _ _)
   |ret=>rfl
 |loop b D=>intro env fr x u;unfold ba at u⊢;exact I _ _ _ _ _ u
 |rangeFunc op U asg body v y=>
  intro env fr x u;unfold ba at u⊢;split at u
  ·rename_i h1
   try simp only[h1]
   split at u
   ·cases u
   ·rename_i h2
    try simp only[h2]
    split at u
    ·cases u
    ·rename_i h3
     try simp only[h3]
     exact vn (fun e r x q=>v e r x q) (fun e r x q=>y e r x q) _ _ _ _ u
  ·cases u
 |_=>intro env fr x u;unfold ba at u⊢;exact u
theorem uN:∀n,gl (b9 g n) (b9 g (n+1))/\sU (cN g n) (cN g (n+1))
 |0=>⟨(fun f v fr x h=>by unfold b9 at h;cases h),(fun f b env fr x h=>by unfold cN at h;cases h)⟩
 |n+1=>by
  obtain⟨h1,h2⟩:=uN n;refine⟨fun f v fr x h=>?_,fun f b env fr x h=>?_⟩
  ·unfold b9 at h⊢;split at h
   ·exact h
   ·split at h
    ·cases h
    ·rename_i z
     try simp only[z]
     split at h
     ·rename_i G
      try simp only[G]
      split at h
      ·cases h
      ·rename_i y
       try simp only[y]
       split at h
       ·rename_i u;rw[gG h1 h2 _ _ _ _ u];exact h
       ·rename_i u;rw[gG h1 h2 _ _ _ _ u];exact h
       ·cases h
     ·cases h
  ·unfold cN at h⊢;split at h
   ·rename_i u;rw[gG h1 h2 _ _ _ _ u];exact h2 _ _ _ _ _ h
   ·rename_i D;rw[gG h1 h2 _ _ _ _ h];obtain⟨o,e,r⟩:=x
    cases o with
    |normal=>exact absurd h (D _ _)
    |exit id=>rfl
    |ret=>rfl
def df{n m:Nat}(h:n<=m):gl (b9 g n) (b9 g m):=by
 induction m with
 |zero=>
   obtain rfl:n=0:=by omega
   exact fun _ _ _ _ h=>h
 |succ m y=>
  rcases Nat.lt_or_ge m n with h1|h1
  ·obtain rfl:n=m+1:=by omega
   exact fun _ _ _ _ h=>h
  ·exact fun f u fr x v=>(uN m).1 _ _ _ _ (y h1 _ _ _ _ v)
def jG{n m:Nat}(h:n<=m):sU (cN g n) (cN g m):=by
 induction m with
 |zero=>
   obtain rfl:n=0:=by omega
   exact fun _ _ _ _ _ h=>h
 |succ m v=>
  rcases Nat.lt_or_ge m n with h1|h1
  ·obtain rfl:n=m+1:=by omega
   exact fun _ _ _ _ _ h=>h
  ·exact fun f b env fr x u=>(uN m).2 _ _ _ _ _ (v h1 _ _ _ _ _ u)
end
def Cl(g:Cfg)(f:Nat)(args:List SV)(fr:Fr)(r:SV)(fr':Fr):Prop:=∃n,b9 g n f args fr=some (r,fr')
def aa(g:Cfg)(f:Nat)(c:Code)(env:Env)(fr:Fr)(K:Out->Env->Fr->Prop):Prop:=∃n o e r,ba g f (b9 g n) (cN g n) c env fr=some (o,e,r)/\K o e r
def aI(g:Cfg)(f:Nat)(b:Code)(env:Env)(fr:Fr)(K:Out->Env->Fr->Prop):Prop:=∃n o e r,cN g n f b env fr=some (o,e,r)/\K o e r
def ab(g:Cfg)(d:Option (List Nat))(ops:Array Oper)(i:Nat)(l:List Oper)(env:Env)(fr:Fr)(K:Env->Fr->Prop):Prop:=∃n e r,cH g (b9 g n) d ops i l env fr=some (e,r)/\K e r
def ax(g:Cfg)(effs:List Nat)(ops:Array Oper)(i:Nat)(l:List Oper)(env:Env)(fr:Fr)(K:Env->Fr->Prop):Prop:=∃n e r,ei g (b9 g n) effs ops i l env fr=some (e,r)/\K e r
def ah(g:Cfg)(d:Option (List Nat))(i:Nat)(env:Env)(fr:Fr)(op:Op)(x:SV)(fr':Fr)(ks:List Nat):Prop:=∃n,step g (b9 g n) d i env fr op=some (x,fr',ks)
def gW(P:Env->Fr->Prop)(K:Out->Env->Fr->Prop):Out->Env->Fr->Prop
 | .normal,e,r=>P e r
 |o,e,r=>K o e r
def jn(id:Nat)(K:Out->Env->Fr->Prop):Out->Env->Fr->Prop
 | .exit i,e,r=>match Nat.beq i id with
  |true=>K .normal e r
  |false=>K (.exit i) e r
 |o,e,r=>K o e r
section
variable {g:Cfg} {f:Nat} {env:Env} {fr:Fr} {K:Out->Env->Fr->Prop}
def aa.post{c:Code}{K':Out->Env->Fr->Prop}(h:aa g f c env fr K)(u:∀o e r,K o e r->K' o e r):aa g f c env fr K':=by
 obtain⟨n,o,e,r,h1,h2⟩:=h;exact⟨n,o,e,r,h1,u _ _ _ h2⟩
theorem aa.skip(h:K .normal env fr):aa g f .skip env fr K:=⟨0,.normal,env,fr,by unfold ba;rfl,h⟩
theorem aa.exit{id:Nat}(h:K (.exit id) env fr):aa g f (.exit id) env fr K:=⟨0,.exit id,env,fr,by unfold ba;rfl,h⟩
theorem aa.ret(h:K .ret env fr):aa g f .ret env fr K:=⟨0,.ret,env,fr,by unfold ba;rfl,h⟩
theorem aa.seq{a b:Code}(h:aa g f a env fr (gW (fun e r=>aa g f b e r K) K)):aa g f (.seq a b) env fr K:=by
 obtain⟨n,o,e,r,h1,h2⟩:=h
 cases o with
 |normal=>
  obtain⟨m,o,u,v,h3,h4⟩:=h2;refine⟨max n m,o,u,v,?_,h4⟩;unfold ba;rw[gG (df (Nat.le_max_left n m)) (jG (Nat.le_max_left n m)) _ _ _ _ h1];exact gG (df (Nat.le_max_right n m)) (jG (Nat.le_max_right n m)) _ _ _ _ h3
 |exit id=>exact⟨n,_,e,r,by unfold ba;rw[h1],h2⟩
 |ret=>exact⟨n,_,e,r,by unfold ba;rw[h1],h2⟩
theorem aa.cond{c:Operand}{a b:Code}{t:Bool}(hc:rd env c=.t (.bool t))(ha:t=true->aa g f a env fr K)(hb:t=false->aa g f b env fr K):aa g f (.cond c a b) env fr K:=by
 cases t with
 |true=>obtain⟨n,o,e,r,h1,h2⟩:=ha rfl;exact⟨n,o,e,r,by unfold ba;rw[hc];exact h1,h2⟩
 |false=>obtain⟨n,o,e,r,h1,h2⟩:=hb rfl;exact⟨n,o,e,r,by unfold ba;rw[hc];exact h1,h2⟩
theorem aa.block{id:Nat}{b:Code}(h:aa g f b env fr (jn id K)):aa g f (.block id b) env fr K:=by
 obtain⟨n,o,e,r,h1,h2⟩:=h
 cases o with
 |normal=>exact⟨n,_,e,r,by unfold ba;rw[h1],h2⟩
 |ret=>exact⟨n,_,e,r,by unfold ba;rw[h1],h2⟩
 |exit i=>
  unfold jn at h2;simp only at h2;split at h2
  ·rename_i u;exact⟨n,.normal,e,r,by unfold ba;rw[h1];simp only[u],h2⟩
  ·rename_i u;exact⟨n,.exit i,e,r,by unfold ba;rw[h1];simp only[u],h2⟩
def aa.text{id:Nat}{l:List Oper}(hm:g.eff f id=[])(h:ab g none l.toArray 0 l env fr fun e r=>K .normal e r):aa g f (.region id l.toArray false) env fr K:=by
 obtain⟨n,e,r,h1,h2⟩:=h;exact⟨n,.normal,e,r,by unfold ba ju;simp only[hm];rw[h1],h2⟩
def aa.drawn{id:Nat}{l:List Oper}(hm:lS (g.eff f id)=0)(h:ab g (some (g.eff f id)) l.toArray 0 l env fr fun e r=>K .normal e r):aa g f (.region id l.toArray true) env fr K:=by
 obtain⟨n,e,r,h1,h2⟩:=h;exact⟨n,.normal,e,r,by unfold ba ju;simp only[hm];rw[h1],h2⟩
def aa.tM{id:Nat}{l:List Oper}(hm:lS (g.eff f id)=1)(h:ax g (g.eff f id) l.toArray 0 l env fr fun e r=>K .normal e r):aa g f (.region id l.toArray true) env fr K:=by
 obtain⟨n,e,r,h1,h2⟩:=h;exact⟨n,.normal,e,r,by unfold ba ju;simp only[hm];rw[h1],h2⟩
def aa.lR{id:Nat}{l:List Oper}{N:Nat}{r:List Nat}(hm:lS (g.eff f id)=4)(he:nl (g.eff f id)=N::r)(h:ax g (N::r) l.toArray 0 l env fr fun e r=>lT fr.length (tN (l.take N)) e r=true/\K .normal e r):aa g f (.region id l.toArray true) env fr K:=by
 obtain⟨n,e,r,h1,h2,h3⟩:=h;refine⟨n,.normal,e,r,?_,h3⟩;unfold ba ju;simp only[hm,he];unfold lU;simp only[h1,h2]
def we(g:Cfg)(effs:List Nat)(ops:Array Oper)(m:Nat)(o:Oper)(l:List Oper)(env:Env)(fr:Fr)(K:Env->Fr->Prop):Prop:=∃n x r ks,bJ g (b9 g n) env fr o.op=some (x,r,ks)/\(nu effs ops m env fr o ks&&qY fr ks x)=true/\ax g effs ops (m+1) l (aD (cF ks env) o.dst x) (freeze r x.refs) K
def aa.C4{id m:Nat}{l y l2:List Oper}{effs:List Nat}{o:Oper}(hm:lS (g.eff f id)=5)(he:nl (g.eff f id)=effs)(hk:ux (g.eff f id)=m)(ht:l.take m=y)(hd:l.drop m=o::l2)(hg:o.guard=none)(h:ax g effs l.toArray 0 y env fr fun e r=>we g effs l.toArray m o l2 e r fun e r=>K .normal e r):aa g f (.region id l.toArray true) env fr K:=by
 subst he hk ht;obtain⟨n,e,r,h1,u,x,I,ks,h2,h3,v,z,G,h4,D⟩:=h;refine⟨max n (max u v),.normal,z,G,?_,D⟩;unfold ba ju;simp only[hm];unfold lV;simp only[iO (df (Nat.le_max_left n _)) _ _ _ _ h1,hd,hg,xb (df (Nat.le_trans (Nat.le_max_left u v) (Nat.le_max_right n _))) h2,h3,iO (df (Nat.le_trans (Nat.le_max_right u v) (Nat.le_max_right n _))) _ _ _ _ h4]
theorem aa.loop{b:Code}{p:Env×Fr}(hp:eM (g.own f (ck b)) env fr=p){q:Env×Fr}(hq:head (g.lv f (ck b)) p.2.length p.1 p.2=q)(h:aI g f b q.1 q.2 K):aa g f (.loop b) env fr K:=by
 subst hp hq;obtain⟨n,o,e,r,h1,h2⟩:=h;exact⟨n,o,e,r,by unfold ba;exact h1,h2⟩
def aI.step{b:Code}(h:aa g f b env fr (gW (fun e r=>aI g f b (head (g.lv f (ck b)) fr.length e r).1 (head (g.lv f (ck b)) fr.length e r).2 K) K)):aI g f b env fr K:=by
 obtain⟨n,o,e,r,h1,h2⟩:=h
 cases o with
 |normal=>
  obtain⟨m,o,u,v,h3,h4⟩:=h2;refine⟨max n m+1,o,u,v,?_,h4⟩;unfold cN;rw[gG (df (Nat.le_max_left n m)) (jG (Nat.le_max_left n m)) _ _ _ _ h1];exact jG (Nat.le_max_right n m) _ _ _ _ _ h3
 |exit id=>exact⟨n+1,_,e,r,by unfold cN;rw[h1],h2⟩
 |ret=>exact⟨n+1,_,e,r,by unfold cN;rw[h1],h2⟩
def Cl.aE{args:List SV}{r:SV}{fr':Fr}{fn:Func}{c:Code}{y:List (Nat×Option Nat)}(hok:g.ok f=true)(hf:g.P.funcs[f]?=some fn)(hb:fn.body=some c)(v:eu fn.results.toList=y)(u:Nat.ble args.length fn.ntmps=true)
  (h:aa g f c (mf args) fr fun o e q=>(o=.normal\/o=.ret)/\eH fr.length (mj g.P e q y) q=some (r,fr'))(ht:g.tre f=false:=by rfl):Cl g f args fr r fr':=by
 subst v;obtain⟨n,o,e,q,h1,h2,h3⟩:=h;refine⟨n+1,?_⟩;unfold b9;simp only[hok,hf,hb,u,h1,ht,kJ];rcases h2 with rfl|rfl <;>exact h3
def Cl.fS{args:List SV}{fn:Func}{c:Code}{y:List (Nat×Option Nat)}{x:AV}(hok:g.ok f=true)(hf:g.P.funcs[f]?=some fn)(hb:fn.body=some c)(v:eu fn.results.toList=y)(u:Nat.ble args.length fn.ntmps=true)
  (h:aa g f c (mf args) [] fun o e q=>(o=.normal\/o=.ret)/\kJ true 0 (eH 0 (mj g.P e q y) q)=some (.t x,[]))(ht:g.tre f=true:=by rfl):Cl g f args [] (.t x) []:=by
 subst v;obtain⟨n,o,e,q,h1,h2,h3⟩:=h;refine⟨n+1,?_⟩;unfold b9;simp only[hok,hf,hb,u,h1,ht,List.length_nil];rcases h2 with rfl|rfl <;>exact h3
variable {d:Option (List Nat)} {ops:Array Oper} {i:Nat} {K':Env->Fr->Prop}
def ab.nil(h:K' env fr):ab g d ops i [] env fr K':=⟨0,env,fr,rfl,h⟩
def ab.u{l:List Oper}{dst:Option Tmp}{op:Op}{ty:TypeId}{pos:String}{after:Array Edge}{x:SV}{fr':Fr}{ks:List Nat}(hx:ah g d i env fr op x fr' ks)(h:ab g d ops (i+1) l (aD (cF ks env) dst x) fr' K'):ab g d ops i (⟨dst,op,ty,pos,after,none⟩::l) env fr K':=by
 obtain⟨n,h1⟩:=hx;obtain⟨m,e,r,h2,h3⟩:=h;refine⟨max n m,e,r,?_,h3⟩;unfold cH;simp only;rw[jO (df (Nat.le_max_left n m)) h1];exact js (df (Nat.le_max_right n m)) _ _ _ _ h2
def ab.gd{l:List Oper}{dst:Option Tmp}{op:Op}{ty:TypeId}{pos:String}{after:Array Edge}{j:Nat}{u W:Bool}{x:SV}(hW:db ops env j u=some W)(hx:W=true->ah g d i env fr op x fr [])(h:ab g d ops (i+1) l (aD env dst (tx W x)) fr K'):ab g d ops i (⟨dst,op,ty,pos,after,some (j,u)⟩::l) env fr K':=by
 obtain⟨m,e,r,h2,h3⟩:=h
 cases W with
 |false=>
  refine⟨m,e,r,?_,h3⟩;unfold cH;simp only[hW];exact h2
 |true=>
  obtain⟨n,h1⟩:=hx rfl;refine⟨max n m,e,r,?_,h3⟩;unfold cH;simp only[hW];rw[jO (df (Nat.le_max_left n m)) h1];exact js (df (Nat.le_max_right n m)) _ _ _ _ h2
def ab.gt{l:List Oper}{dst:Option Tmp}{op:Op}{ty:TypeId}{pos:String}{after:Array Edge}{j:Nat}{u:Bool}{x:SV}{fr':Fr}{ks:List Nat}(hW:db ops env j u=some true)(hx:ah g d i env fr op x fr' ks)(h:ab g d ops (i+1) l (aD (cF ks env) dst (.aN x)) fr' K'):ab g d ops i (⟨dst,op,ty,pos,after,some (j,u)⟩::l) env fr K':=by
 obtain⟨m,e,r,h2,h3⟩:=h;obtain⟨n,h1⟩:=hx;refine⟨max n m,e,r,?_,h3⟩;unfold cH;simp only[hW];rw[jO (df (Nat.le_max_left n m)) h1];exact js (df (Nat.le_max_right n m)) _ _ _ _ h2
def ab.gf{l:List Oper}{dst:Option Tmp}{op:Op}{ty:TypeId}{pos:String}{after:Array Edge}{j:Nat}{u:Bool}(hW:db ops env j u=some false)(h:ab g d ops (i+1) l (aD env dst .no) fr K'):ab g d ops i (⟨dst,op,ty,pos,after,some (j,u)⟩::l) env fr K':=by
 obtain⟨m,e,r,h2,h3⟩:=h;refine⟨m,e,r,?_,h3⟩;unfold cH;simp only[hW];exact h2
variable {effs:List Nat}
def ax.nil(h:K' env fr):ax g effs ops i [] env fr K':=⟨0,env,fr,rfl,h⟩
def ax.u{l:List Oper}{dst:Option Tmp}{op:Op}{ty:TypeId}{pos:String}{after:Array Edge}{x:SV}{fr':Fr}(hfl:o8 effs ops env i=true)(hx:ah g (some effs) i env fr op x fr' [])(h:ax g effs ops (i+1) l (aD env dst x) fr' K'):ax g effs ops i (⟨dst,op,ty,pos,after,none⟩::l) env fr K':=by
 obtain⟨n,h1⟩:=hx;obtain⟨m,e,r,h2,h3⟩:=h;refine⟨max n m,e,r,?_,h3⟩;unfold ei;simp only[hfl];rw[jO (df (Nat.le_max_left n m)) h1];exact iO (df (Nat.le_max_right n m)) _ _ _ _ h2
def ax.gt{l:List Oper}{dst:Option Tmp}{op:Op}{ty:TypeId}{pos:String}{after:Array Edge}{j:Nat}{u:Bool}{x:SV}{fr':Fr}(hfl:o8 effs ops env i=true)(hW:db ops env j u=some true)(hx:ah g (some effs) i env fr op x fr' [])(h:ax g effs ops (i+1) l (aD env dst (.aN x)) fr' K'):ax g effs ops i (⟨dst,op,ty,pos,after,some (j,u)⟩::l) env fr K':=by
 obtain⟨n,h1⟩:=hx;obtain⟨m,e,r,h2,h3⟩:=h;refine⟨max n m,e,r,?_,h3⟩;unfold ei;simp only[hfl,hW];rw[jO (df (Nat.le_max_left n m)) h1];exact iO (df (Nat.le_max_right n m)) _ _ _ _ h2
def ax.gf{l:List Oper}{dst:Option Tmp}{op:Op}{ty:TypeId}{pos:String}{after:Array Edge}{j:Nat}{u:Bool}(hfl:o8 effs ops env i=true)(hW:db ops env j u=some false)(h:ax g effs ops (i+1) l (aD env dst .no) fr K'):ax g effs ops i (⟨dst,op,ty,pos,after,some (j,u)⟩::l) env fr K':=by
 obtain⟨m,e,r,h2,h3⟩:=h;refine⟨m,e,r,?_,h3⟩;unfold ei;simp only[hfl,hW];exact h2
def ax.Ey{m:Nat}{l:List Oper}{dst:Option Tmp}{op:Op}{ty:TypeId}{pos:String}{after:Array Edge}{x:SV}{fr':Fr}{ks:List Nat}(hx:ah g (some effs) m env fr op x fr' ks)(hk:(nu effs ops m env fr ⟨dst,op,ty,pos,after,none⟩ ks&&qY fr ks x)=true){u:Fr}(hz:freeze fr' x.refs=u)(h:ax g effs ops (m+1) l (aD (cF ks env) dst x) u K'):we g effs ops m ⟨dst,op,ty,pos,after,none⟩ l env fr K':=by
 obtain⟨n,h1⟩:=hx;subst hz;refine⟨n,x,fr',ks,?_,hk,h⟩
 have v:bi effs m=true:=by
  unfold nu at hk;rw[Bool.and_eq_true,Bool.and_eq_true]at hk;exact hk.1.1
 unfold step at h1;simp only[v]at h1;exact h1
def ah.r{op:Op}{x:SV}{fr':Fr}{ks:List Nat}(h:∀C,step g C d i env fr op=some (x,fr',ks)):ah g d i env fr op x fr' ks:=⟨0,h _⟩
end
end Go.Proofs.YtgbfedgghjcdcaaGreatDoor
