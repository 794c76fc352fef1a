/- The tree evaluator,18: regions that draw their order. No condition. -/
import Derived.Test.YtjolgbkkocjpgaaGreatDoorTB
import Derived.RangeFuncSeq
set_option linter.all false
namespace Go.Proofs.YtjolgbkkocjpgaaGreatDoor
open Go.RowKit
def py(g:Cfg)(C:CallF)(d:Option (List Nat))(ops:Array Oper)(i:Nat)(o:Oper)(E:Env)(F:Fr)(E':Env)(v:Fr):Prop:=
 match o.guard with
 |none=>∃x ks,step g C d i E F o.op=some (x,v,ks)/\E'=aH (dG ks E) o.dst x
 |some (j,u)=>(cP ops E j u=some true/\∃x ks,step g C d i E F o.op=some (x,v,ks)/\E'=aH (dG ks E) o.dst (.aV x))\/(cP ops E j u=some false/\v=F/\E'=aH E o.dst .no)
theorem Fb{g:Cfg}{C:CallF}{d:Option (List Nat)}{ops:Array Oper}{env':Env}{fr':Fr}:∀(l:List Oper) (n:Nat) (env:Env) (fr:Fr),d_ g C d ops n l env fr=some (env',fr')->
  ∃(E:Nat->Env) (F:Nat->Fr),E 0=env/\F 0=fr/\(∀i o,l[i]?=some o->py g C d ops (n+i) o (E i) (F i) (E (i+1)) (F (i+1)))/\E l.length=env'/\F l.length=fr'
 |[],n,env,fr,h=>by
  unfold d_ at h;cases h;exact⟨fun _=>env',fun _=>fr',rfl,rfl,fun i o U=>by simp at U,rfl,rfl⟩
 |o::l,n,env,fr,h=>by
  have:∃z u,py g C d ops n o env fr z u/\d_ g C d ops (n+1) l z u=some (env',fr'):=by
   unfold d_ at h;unfold py;split at h
   ·rename_i G;rw[G];split at h
    ·rename_i x u ks v;exact⟨_,u,⟨x,ks,v,rfl⟩,h⟩
    ·cases h
   ·rename_i j I G;rw[G];split at h
    ·cases h
    ·rename_i D;split at h
     ·rename_i x u ks v;exact⟨_,u,.inl ⟨D,x,ks,v,rfl⟩,h⟩
     ·cases h
    ·rename_i D;exact⟨_,_,.inr ⟨D,rfl,rfl⟩,h⟩
  obtain⟨z,u,h1,h2⟩:=this;obtain⟨E,F,J,a2,a3,a4,a5⟩:=Fb l (n+1) z u h2;refine⟨fun i=>match i with|0=>env|i+1=>E i,fun i=>match i with|0=>fr|i+1=>F i,rfl,rfl,fun i V y=>?_,a4,a5⟩
  cases i with
  |zero=>cases y;show py g C d ops (n+0) _ env fr (E 0) (F 0);rw[J,a2];exact h1
  |succ i=>
   have:=a3 i V (by simpa using y);rw[Nat.add_assoc,Nat.add_comm 1 i]at this;exact this
def ID{g:Cfg}{C:CallF}{fr:Fr}{f:Nat}{args:List SV}{x:SV}{fr':Fr}{ks:List Nat}(h:iE g C true fr f args=some (x,fr',ks)):fr'=fr/\ks=[]:=by
 unfold iE at h;split at h
 ·cases h
 ·split at h
  ·split at h
   ·cases h
   ·split at h
    ·cases h;exact⟨rfl,rfl⟩
    ·simp only at h;split at h
     ·split at h
      ·cases h;exact⟨rfl,rfl⟩
      ·split at h
       ·cases h;exact⟨rfl,rfl⟩
       ·cases h
     ·cases h
  ·cases h
def vH{g:Cfg}{C:CallF}{env:Env}{fr:Fr}{op:Op}{x:SV}{fr':Fr}{ks:List Nat}(h:ig g C env fr op=some (x,fr',ks)):fr'=fr/\ks=[]:=by
 unfold ig at h;split at h
 ·rename_i u;unfold mI at u;split at u
  ·unfold ca tX at h;simp only at h;split at h
   ·cases h;exact⟨rfl,rfl⟩
   ·cases h
  ·rename_i c v y;unfold ca at h;simp only at h;unfold nu at h;split at h
   ·cases h
   ·exact ID h
  ·cases u
 ·obtain⟨_,rfl,rfl⟩:=uM h;exact⟨rfl,rfl⟩
section
variable {g:Cfg} {γ:Glob} {κ:Ctx} {C:CallF} {ops:Array Oper} {effs:List Nat} {n:Nat} {E:Nat->Env} {F:Nat->Fr}
structure iC (γ:Glob) (κ:Ctx) (ops:Array Oper) (effs:List Nat) (n:Nat) (E:Nat->Env) (F:Nat->Fr) (b:Nat) (L:Ls) (listed:Array Bool) (a:Act) (w:World):Prop where
 hd:Marks κ w a.defers
 hn:a.tmps.size=n
 hs:listed.size=ops.size
 hb:b<=ops.size
 low:∀k,k <b->listed.getD k true=true
 so:∀k,b<=k->k <ops.size->listed.getD k true=true->∀e∈effs,b<=e->k <e
 bw:aw γ κ (F b) L w
 done:∀(k:Nat) (o:Oper) (t:Nat),ops[k]?=some o->b<=k->o.dst=some t->listed.getD k true=true->SR (MA κ.M (F b) L) L w (E (k+1) t) (a.tmps.getD t undef)
 rest:∀(t:Nat),(∀(k:Nat) (o:Oper),ops[k]?=some o->b<=k->o.dst=some t->listed.getD k true=false)->SR (MA κ.M (F b) L) L w (E b t) (a.tmps.getD t undef)
 dm:∀(k:Nat) (o:Oper),ops[k]?=some o->listed.getD k true=true->∀e∈o.after,Region.binds .any e=true->listed.getD e.on false=true
abbrev Steps(g:Cfg)(C:CallF)(ops:Array Oper)(effs:List Nat)(E:Nat->Env)(F:Nat->Fr):Prop:=∀(i:Nat) (o:Oper),ops[i]?=some o->py g C (some effs) ops i o (E i) (F i) (E (i+1)) (F (i+1))
def Steps.Ad(y:Steps g C ops effs E F){i:Nat}{o:Oper}(ho:ops[i]?=some o)(hi:i∉effs):F (i+1)=F i/\∀t,o.dst≠some t->E (i+1) t=E i t:=by
 have h:=y i o ho
 have v:∀{x ks},step g C (some effs) i (E i) (F i) o.op=some (x,F (i+1),ks)->F (i+1)=F i/\ks=[]:=fun{x ks} h=>by
  unfold step at h;simp only[fP.2 hi]at h;exact vH h
 unfold py at h;split at h
 ·obtain⟨x,ks,h1,h2⟩:=h;obtain⟨h3,rfl⟩:=v h1;exact⟨h3,fun t u=>by rw[h2,ld u];rfl⟩
 ·rcases h with⟨_,x,ks,h1,h2⟩|⟨_,h1,h2⟩
  ·obtain⟨h3,rfl⟩:=v h1;exact⟨h3,fun t u=>by rw[h2,ld u];rfl⟩
  ·exact⟨h1,fun t u=>by rw[h2,ld u]⟩
theorem yj(u:Steps g C ops effs E F){b:Nat}:∀i,b<=i->i<=ops.size->(∀m,b<=m->m <i->m∉effs)->F i=F b
 |0,h,_,_=>by
   obtain rfl:b=0:=by omega
   rfl
 |i+1,h,y,v=>by
  rcases Nat.lt_or_ge i b with h1|h1
  ·obtain rfl:b=i+1:=by omega
   rfl
  ·rw[(u.Ad (Array.getElem?_eq_getElem (by omega)) (v i h1 (by omega))).1];exact yj u i h1 (by omega) fun m h2 h3=>v m h2 (by omega)
theorem yh(v:Steps g C ops effs E F)(t b:Nat):∀i,b<=i->i<=ops.size->(∀m,b<=m->m <i->m∉effs)->(∀(k:Nat) (o:Oper),b<=k->k <i->ops[k]?=some o->o.dst≠some t)->E i t=E b t
 |0,h,_,_,_=>by
   obtain rfl:b=0:=by omega
   rfl
 |i+1,h,G,z,y=>by
  rcases Nat.lt_or_ge i b with h1|h1
  ·obtain rfl:b=i+1:=by omega
   rfl
  ·rw[(v.Ad (Array.getElem?_eq_getElem (by omega)) (z i h1 (by omega))).2 t (y i _ h1 (by omega) (Array.getElem?_eq_getElem (by omega)))];exact yh v t b i h1 (by omega) (fun m h2 h3=>z m h2 (by omega)) fun k o u D=>y k o u (by omega)
variable {b:Nat} {L:Ls} {listed:Array Bool} {a:Act} {w:World}
def iC.start(hd:Marks κ w a.defers)(hn:a.tmps.size=n)(z:aw γ κ (F 0) L w)(D:∀t,SR (MA κ.M (F 0) L) L w (E 0 t) (a.tmps.getD t undef)):iC γ κ ops effs n E F 0 L (Array.replicate ops.size false) a w where
 hd:=hd
 hn:=hn
 hs:=by simp
 hb:=Nat.zero_le _
 low:=fun k v=>by omega
 so:=fun k _ v u=>by
  rw[Array.getD_eq_getD_getElem?,Array.getElem?_replicate,if_pos v]at u;cases u
 bw:=z
 done:=fun k o t y _ _ u=>by
  have v:=(Array.getElem?_eq_some_iff.1 y).1;rw[Array.getD_eq_getD_getElem?,Array.getElem?_replicate,if_pos v]at u;cases u
 rest:=fun t _=>D t
 dm:=fun k o y u=>by
  have v:=(Array.getElem?_eq_some_iff.1 y).1;rw[Array.getD_eq_getD_getElem?,Array.getElem?_replicate,if_pos v]at u;cases u
def iC.slot(hok:sE ops effs)(U:Steps g C ops effs E F)(h:iC γ κ ops effs n E F b L listed a w)
  {i:Nat}{t:Nat}(G:b<=i)(hi:i<=ops.size)(hm:∀m,b<=m->m <i->m∉effs)(h1:∀(k:Nat) (ok:Oper),ops[k]?=some ok->b<=k->ok.dst=some t->listed.getD k true=true->k <i)(h2:∀(k:Nat) (ok:Oper),ops[k]?=some ok->b<=k->ok.dst=some t->listed.getD k true=false->i<=k):SR (MA κ.M (F b) L) L w (E i t) (a.tmps.getD t undef):=by
 by_cases y:∃(k:Nat) (ok:Oper),ops[k]?=some ok/\b<=k/\ok.dst=some t/\listed.getD k true=true
 ·obtain⟨k,ok,v,u,hd,D⟩:=y;have I:=h1 k ok v u hd D;rw[yh U t (k+1) i (by omega) hi (fun m h2 h3=>hm m (by omega) h3) fun m om V Z J=>hok.dst m om k ok t J v (by omega) hd];exact h.done k ok t v u hd D
 ·have z:∀(k:Nat) (o:Oper),ops[k]?=some o->b<=k->o.dst=some t->listed.getD k true=false:=fun k o v u hd=>by
   rw[<- Bool.not_eq_true];exact fun D=>y ⟨k,o,v,u,hd,D⟩
  rw[yh U t b i G hi hm fun k o u I v hd=>by have:=h2 k o v u hd (z k o v u hd);omega];exact h.rest t z
def iC.jy(h:iC γ κ ops effs n E F b L listed a w){i k:Nat}(ha:gM ops i k):(∀(o:Oper),ops[i]?=some o->∀e∈o.after,Region.binds .any e=true->listed.getD e.on false=true)->listed.getD k true=true:=by
 induction ha with
 |one i o e z v u=>intro y;exact gA (y o z e v u)
 |more i k o e z v u ha G=>
  intro y;have h1:=gA (y o z e v u);exact G fun I D=>h.dm e.on I D h1
def H3(hok:sE ops effs){listed:Array Bool}(hs:listed.size=ops.size)(hr:Region.ready .any ops listed=[]):∀k,k <ops.size->listed.getD k true=true:=by
 intro k
 induction k using Nat.strongRecOn with
 |_ k ih=>
  intro v;rw[<- Bool.not_eq_false];intro G
  have y:k∈Region.ready .any ops listed:=mem_ready.2 ⟨G,ops[k],Array.getElem?_eq_getElem v,fun e D z=>by
   have u:=hok.back k _ (Array.getElem?_eq_getElem v) e D z;exact zB (by rw[hs];omega) (ih e.on u (by omega))⟩
  rw[hr]at y;cases y
theorem iC.put(hok:sE ops effs)(h:iC γ κ ops effs n E F b L listed a w){w':World}{i:Nat}{o:Oper}(ho:ops[i]?=some o)(al:listed.getD i true=false)(ab:b<=i)(ai:i∉effs)(ag:∀e∈effs,b<=e->i <e)(G:∀e∈o.after,Region.binds .any e=true->listed.getD e.on false=true)
  (U:∀d,o.dst=some d->d <n){v:Value}{L':Ls}(hT:Tr κ.M (F b) L w (F b) L' w' [])(Z:aw γ κ (F b) L' w')(hv:∀t,o.dst=some t->SR (MA κ.M (F b) L') L' w' (E (i+1) t) v):iC γ κ ops effs n E F b L' (listed.setIfInBounds i true) (a.put o.dst v) w' where
 hd:=by rw[put_defers];exact h.hd.tr h.bw hT
 hn:=by rw[bY,h.hn]
 hs:=by rw[Array.size_setIfInBounds];exact h.hs
 hb:=h.hb
 low:=fun k y=>by rw[getD_set_ne true (by omega)];exact h.low k y
 so:=fun k z y D e V J=>by
  by_cases u:k=i
  ·subst u;exact ag e V J
  ·rw[getD_set_ne true (Ne.symm u)]at D;exact h.so k z y D e V J
 bw:=Z
 done:=fun k ok t y z hd D=>by
  by_cases u:k=i
  ·subst u;rw[ho]at y;cases y;rw[hd,fE (by rw[h.hn];exact U t hd)];exact hv t hd
  ·rw[ce (hok.dst i o k ok t ho y u hd)];rw[getD_set_ne true (Ne.symm u)]at D;exact hT.sr (h.done k ok t y z hd D)
 rest:=fun t ht=>by
  have hi:o.dst≠some t:=fun hd=>by
   have ad:i <listed.size:=by rw[h.hs];exact(Array.getElem?_eq_some_iff.1 ho).1
   have:=ht i o ho ab hd;rw[Array.getD_eq_getD_getElem?,Array.getElem?_setIfInBounds_self_of_lt ad]at this;cases this
  rw[ce hi];refine hT.sr (h.rest t fun k ok y z hd=>?_);have u:k≠i:=fun e=>by subst e;rw[ho]at y;cases y;exact hi hd
  have:=ht k ok y z hd;rw[getD_set_ne true (Ne.symm u)]at this;exact this
 dm:=fun k ok y D e V I=>by
  by_cases u:k=i
  ·subst u;rw[ho]at y;cases y;exact getD_set_true (G e V I)
  ·rw[getD_set_ne true (Ne.symm u)]at D;exact getD_set_true (h.dm k ok y D e V I)
def iC.jump(h:iC γ κ ops effs n E F b L listed a w){w':World}{i:Nat}{o:Oper}(ho:ops[i]?=some o)(V:∀k,k <i->listed.getD k true=true)(I:∀k,i <k->k <ops.size->listed.getD k true=false)(D:∀e∈o.after,Region.binds .any e=true->listed.getD e.on false=true)
  {v:Value}{L':Ls}(hd:Marks κ w' a.defers)(J:aw γ κ (F (i+1)) L' w')(hV:∀t,SR (MA κ.M (F (i+1)) L') L' w' (E (i+1) t) ((a.put o.dst v).tmps.getD t undef)):iC γ κ ops effs n E F (i+1) L' (listed.setIfInBounds i true) (a.put o.dst v) w' where
 hd:=by rw[put_defers];exact hd
 hn:=by rw[bY,h.hn]
 hs:=by rw[Array.size_setIfInBounds];exact h.hs
 hb:=(Array.getElem?_eq_some_iff.1 ho).1
 low:=fun k y=>by
  by_cases u:k=i
  ·subst u;have Z:k <listed.size:=by rw[h.hs];exact(Array.getElem?_eq_some_iff.1 ho).1
   rw[Array.getD_eq_getD_getElem?,Array.getElem?_setIfInBounds_self_of_lt Z];rfl
  ·rw[getD_set_ne true (Ne.symm u)];exact V k (by omega)
 so:=fun k U y z=>by
  rw[getD_set_ne true (by omega),I k (by omega) y]at z;cases z
 bw:=J
 done:=fun k ok t y U hd z=>by
  rw[getD_set_ne true (by omega),I k (by omega) (Array.getElem?_eq_some_iff.1 y).1]at z;cases z
 rest:=fun t _=>hV t
 dm:=fun k ok y z e he G=>by
  by_cases u:k=i
  ·subst u;rw[ho]at y;cases y;exact getD_set_true (D e he G)
  ·rw[getD_set_ne true (Ne.symm u)]at z;exact getD_set_true (h.dm k ok y z e he G)
def RT{rd:Option Nat}{dn:Nat}(hS:eK g.P γ C)(hok:sE ops effs)(a6:iI n ops.toList=true)(hE:Steps g C ops effs E F){Q:Exit->Act->World->Prop}
  (hK:∀L a w,Marks κ w a.defers->a.tmps.size=n->aw γ κ (F ops.size) L w->(∀t,SR (MA κ.M (F ops.size) L) L w (E ops.size t) (a.tmps.getD t undef))->Q .normal a w):
  ∀(I:Nat) (b:Nat) (L:Ls) (listed:Array Bool) (a:Act) (w:World),eW listed ops.size<=I->iC γ κ ops effs n E F b L listed a w->wpAnyIn (Fw rd) dn g.P .any ops Q I listed a w:=by
 have ad:∀(i:Nat) (o:Oper),ops[i]?=some o->∀d,o.dst=some d->d <n:=fun i o ho d hd=>jD a6 (Array.mem_toList_iff.2 (Array.mem_of_getElem? ho)) hd
 have fin:∀(b:Nat) (L:Ls) (listed:Array Bool) (a:Act) (w:World),(∀k,k <ops.size->listed.getD k true=true)->iC γ κ ops effs n E F b L listed a w->Q .normal a w:=fun b L listed a w V h=>by
  have hm:∀m,b<=m->m <ops.size->m∉effs:=fun m h1 h2 h3=>Nat.lt_irrefl _ (h.so m h1 h2 (V m h2) m h3 h1);have hF:=yj hE ops.size h.hb (Nat.le_refl _) hm;refine hK L a w h.hd h.hn (by rw[hF];exact h.bw) fun t=>?_;rw[hF]
  exact h.slot hok hE h.hb (Nat.le_refl _) hm (fun k ok G _ _ _=>(Array.getElem?_eq_some_iff.1 G).1) (fun k ok G _ _ hl=>by
   have:=V k (Array.getElem?_eq_some_iff.1 G).1;rw[hl]at this;cases this)
 intro I
 induction I with
 |zero=>
  intro b L listed a w hu h;have V:=sB (listed:=listed) ops.size (by omega);refine⟨?_,fin b L listed a w V h⟩
  cases hr:Region.ready .any ops listed with
  |nil=>rfl
  |cons i l=>
   have hm:i∈Region.ready .any ops listed:=by rw[hr];simp
   obtain⟨hl,o,ho,_⟩:=mem_ready.1 hm;have:=V i (Array.getElem?_eq_some_iff.1 ho).1;rw[hl]at this;cases this
 |succ I ih=>
  intro b L listed a w hu h;refine⟨fun hr=>fin b L listed a w (H3 hok h.hs hr) h,fun i hi=>?_⟩;obtain⟨hl,o,ho,J⟩:=mem_ready.1 hi;have aD:=(Array.getElem?_eq_some_iff.1 ho).1;have D:=hE i o ho
  have bi:eW (listed.setIfInBounds i true) ops.size<=I:=by
   have:=qL hl ops.size;rw[if_pos aD]at this;omega
  have al:b<=i:=by
   rcases Nat.lt_or_ge i b with h1|h1
   ·have:=h.low i h1;rw[hl]at this;cases this
   ·exact h1
  have ag:∀k,gM ops i k->listed.getD k true=true:=fun k ha=>h.jy ha fun o' aB=>by rw[ho]at aB;cases aB;exact J
  have bf:∀e∈effs,b<=e->¬e <i:=fun e he au be=>by
   have h1:=ag e ((hok.eff e he i aD).2 be);exact Nat.lt_irrefl _ (h.so e au (by omega) h1 e he au)
  have hm:∀m,b<=m->m <i->m∉effs:=fun m h1 h2 h3=>bf m h3 h1 h2;have hF:F i=F b:=yj hE i al (by omega) hm
  have ai:∀k,dM o k=true->listed.getD k true=true/\k <i:=fun k G=>by
   obtain⟨e,he,hb,rfl⟩:=jg G;exact⟨gA (J e he hb),hok.back i o ho e he hb⟩
  have bh:∀y∈o.op.operands,SR (MA κ.M (F i) L) L w (dE (E i) y) (a.eval y):=fun y hy=>by
   rw[hF]
   cases y with
   |const v=>exact kz v
   |global g=>exact .dead _
   |func f=>exact .t _ _ (.fn _ [] #[] #[] rfl (fun j x u hx _=>by simp at hx))
   |tmp t=>
    refine h.slot hok hE al (by omega) hm (fun k ok G aJ hd z=>?_) (fun k ok G aJ hd z=>?_)
    ·have bz:k≠i:=fun e=>by subst e;rw[hl]at z;cases z
     rcases hok.use i o k ok t ho G bz hd hy with h1|h1
     ·exact(ai k h1).2
     ·obtain⟨e,he,hb,rfl⟩:=jg h1;have:=gA (h.dm k ok G z e he hb);rw[hl]at this;cases this
    ·rcases Nat.lt_or_ge k i with be|bx
     ·rcases hok.use i o k ok t ho G (by omega) hd hy with h1|h1
      ·have:=(ai k h1).1;rw[z]at this;cases this
      ·obtain⟨e,he,hb,rfl⟩:=jg h1;have:=hok.back k ok G e he hb;omega
     ·exact bx
  have aq:aw γ κ (F i) L w:=by rw[hF];exact h.bw
  -- what comes behind this operation,once it is carried out
  have next:∀(v:Value) (w':World) (L':Ls) (x:SV) (ks:List Nat),Tr κ.M (F i) L w (F (i+1)) L' w' ks->aw γ κ (F (i+1)) L' w'->SR (MA κ.M (F (i+1)) L') L' w' x v->E (i+1)=aH (dG ks (E i)) o.dst x->(i∉effs->ks=[])->wpAnyIn (Fw rd) dn g.P .any ops Q I (listed.setIfInBounds i true) (a.put o.dst v) w':=fun v w' L' x ks hT ab hv U aX=>by
   by_cases Z:i∈effs
   ·have bd:∀k,k <i->listed.getD k true=true:=fun k G=>ag k ((hok.eff i Z k (by omega)).1 G)
    have a8:∀k,i <k->k <ops.size->listed.getD k true=false:=fun k G aX=>by
     rw[<- Bool.not_eq_true];intro z;have:=h.jy ((hok.eff i Z k aX).2 G) fun o' aB=>h.dm k o' aB z;rw[hl]at this;cases this
    refine ih _ _ _ _ _ bi (h.jump ho bd a8 J (h.hd.tr aq hT) ab fun t=>?_);rw[U];refine lU (fun t=>?_) hv (fun k G=>by rw[h.hn];exact ad i o ho k G) t;refine hT.env ?_;rw[hF];refine h.slot hok hE al (by omega) hm (fun k ok G _ _ z=>?_) (fun k ok G _ _ z=>?_)
    ·have:=(Array.getElem?_eq_some_iff.1 G).1;rcases Nat.lt_trichotomy k i with h1|h1|h1
     ·exact h1
     ·subst h1;rw[hl]at z;cases z
     ·rw[a8 k h1 this]at z;cases z
    ·rcases Nat.lt_or_ge k i with h1|h1
     ·rw[bd k h1]at z;cases z
     ·exact h1
   ·obtain⟨bm,_⟩:=hE.Ad ho Z;rw[bm,hF]at hT ab hv;obtain rfl:=aX Z;refine ih _ _ _ _ _ bi (h.put hok ho hl al Z (fun e he au=>?_) J (ad i o ho) hT ab fun t ht=>?_)
    ·have:=bf e he au;have:e≠i:=fun h=>Z (by rw[<- h];exact he);omega
    ·rw[U,ht];show SR _ _ _ (c9 _ t x t) v
     rw[iA];exact hv
  have ao:∀{x:SV} {f1:Fr} {ks:List Nat},step g C (some effs) i (E i) (F i) o.op=some (x,f1,ks)->i∉effs->ks=[]:=fun{x f1 ks} D Z=>by
   unfold step at D;simp only[fP.2 Z]at D;exact(vH D).2
  unfold wpOpIn;simp only[ho];unfold py at D
  cases hg:o.guard with
  |none=>
   rw[hg]at D;obtain⟨x,ks,D,U⟩:=D;rw[if_pos (by simp[Region.wanted,hg])];exact(iv hS D κ L a w aq bh).wpIn fun v w' ⟨L',hT,ab,hv⟩=>next v w' L' x ks hT ab hv U (ao D)
  |some gj=>
   obtain⟨j,aG⟩:=gj;rw[hg]at D;obtain⟨bT,bU⟩:=ai j (hok.guard i o j aG ho hg)
   have bl:∀W,cP ops (E i) j aG=some W->Region.wanted o (yielded ops a.tmps)=W:=fun W hW=>pm (A:=MA κ.M (F b) L) (L:=L) (w:=w) hg hW fun d av=>by
    cases an:ops[j]? with
    |none=>rw[an]at av;cases av
    |some oj=>
     rw[an]at av;have aR:oj.dst=some d:=av;refine⟨?_,by rw[h.hn];exact ad j oj an d aR⟩;refine h.slot hok hE al (by omega) hm (fun k ok G aJ hd z=>?_) (fun k ok G aJ hd z=>?_)
     ·rcases Nat.lt_or_ge k j with h1|h1
      ·omega
      ·rcases Nat.eq_or_lt_of_le h1 with h2|h2
       ·omega
       ·exact absurd aR (hok.dst j oj k ok d an G (by omega) hd)
     ·by_cases bb:k=j
      ·subst bb;rw[bT]at z;cases z
      ·exact absurd aR (hok.dst j oj k ok d an G bb hd)
   rcases D with⟨hW,x,ks,D,U⟩|⟨hW,a1,U⟩
   ·rw[bl _ hW,if_pos rfl];exact(iv hS D κ L a w aq bh).wpIn fun v w' ⟨L',hT,ab,hv⟩=>next v w' L' (.aV x) ks hT ab (.aV _ _ hv) U (ao D)
   ·rw[bl _ hW,if_neg (by simp)];exact⟨fun _ _=>trivial,next undef w L .no [] (by rw[a1];exact Tr.refl) (by rw[a1];exact aq) .no U (fun _=>rfl)⟩
end
def mr(g:Cfg)(C:CallF)(effs:List Nat)(ops:Array Oper)(i:Nat)(o:Oper)(E:Env)(F:Fr)(E':Env)(v:Fr):Prop:=
 tx effs ops E i=true/\match o.guard with
 |none=>∃x,step g C (some effs) i E F o.op=some (x,v,[])/\E'=aH E o.dst x
 |some (j,u)=>(cP ops E j u=some true/\∃x,step g C (some effs) i E F o.op=some (x,v,[])/\E'=aH E o.dst (.aV x))\/(cP ops E j u=some false/\v=F/\E'=aH E o.dst .no)
theorem ue{g:Cfg}{C:CallF}{effs:List Nat}{ops:Array Oper}{env':Env}{fr':Fr}:∀(l:List Oper) (n:Nat) (env:Env) (fr:Fr),gz g C effs ops n l env fr=some (env',fr')->
  ∃(E:Nat->Env) (F:Nat->Fr),E 0=env/\F 0=fr/\(∀i o,l[i]?=some o->mr g C effs ops (n+i) o (E i) (F i) (E (i+1)) (F (i+1)))/\E l.length=env'/\F l.length=fr'
 |[],n,env,fr,h=>by
  unfold gz at h;cases h;exact⟨fun _=>env',fun _=>fr',rfl,rfl,fun i o V=>by simp at V,rfl,rfl⟩
 |o::l,n,env,fr,h=>by
  have:∃D u,mr g C effs ops n o env fr D u/\gz g C effs ops (n+1) l D u=some (env',fr'):=by
   unfold gz at h;unfold mr;split at h
   ·cases h
   ·rename_i v;split at h
    ·rename_i I;rw[I];split at h
     ·rename_i x u y;exact⟨_,u,⟨v,x,y,rfl⟩,h⟩
     ·cases h
    ·rename_i j J I;rw[I];split at h
     ·cases h
     ·rename_i G;split at h
      ·rename_i x u y;exact⟨_,u,⟨v,.inl ⟨G,x,y,rfl⟩⟩,h⟩
      ·cases h
     ·rename_i G;exact⟨_,_,⟨v,.inr ⟨G,rfl,rfl⟩⟩,h⟩
  obtain⟨D,u,h1,h2⟩:=this;obtain⟨E,F,U,a2,a3,a4,a5⟩:=ue l (n+1) D u h2;refine⟨fun i=>match i with|0=>env|i+1=>E i,fun i=>match i with|0=>fr|i+1=>F i,rfl,rfl,fun i Z z=>?_,a4,a5⟩
  cases i with
  |zero=>cases z;show mr g C effs ops (n+0) _ env fr (E 0) (F 0);rw[U,a2];exact h1
  |succ i=>
   have:=a3 i Z (by simpa using z);rw[Nat.add_assoc,Nat.add_comm 1 i]at this;exact this
def MI{P:Program}{t:Nat}{x:SV}{fr fr':Fr}(hv:∀b p k,x≠.lr b p k)(h:∀b,((∃j,x=.lp b j)\/∃sz k j,x=.le b sz k j)->fr[b]?=fr'[b]?):fW P fr t x=fW P fr' t x:=by
 unfold fW
 cases x with
 |lp i j=>simp only[h i (.inl ⟨j,rfl⟩)]
 |le i sz k j=>simp only[h i (.inr ⟨sz,k,j,rfl⟩)]
 |lr b p k=>exact absurd rfl (hv b p k)
 |t y=>cases y <;>rfl
 |_=>rfl
def Lw{P:Program}{t:Nat}{x i:SV}{fr fr':Fr}(hv:(∀b sz a n,x≠.lv b sz a n)/\∀b p,x≠.lo b p)(h:∀b,x=.ls b->fr[b]?=fr'[b]?):jJ P fr t x i=jJ P fr' t x i:=by
 unfold jJ
 cases x with
 |lv b sz a n=>exact absurd rfl (hv.1 b sz a n)
 |lo b p=>exact absurd rfl (hv.2 b p)
 |ls r=>simp only[h r rfl]
 |t y=>cases y <;>rfl
 |_=>rfl
def Oy{env:Env}{t:Nat}{y:Operand}{u:List Nat}(h:dH env (.load t y)=some u):∀b,(((∃j,rd env y=.lp b j)\/∃sz k j,rd env y=.le b sz k j)->u=[b]):=by
 intro b v;have h:(match rd env y with|.lp i _=>some [i]|.le i _ _ _=>some [i]|.lr ..=>none|_=>some [])=some u:=h;rcases v with⟨j,e⟩|⟨sz,k,j,e⟩
 ·rw[e]at h;cases h;rfl
 ·rw[e]at h;cases h;rfl
def FC{env:Env}{t:Nat}{y:Operand}{z:List Nat}(h:dH env (.load t y)=some z):∀b∈z,(∃j,rd env y=.lp b j)\/∃sz k j,rd env y=.le b sz k j:=by
 intro b v;have h:(match rd env y with|.lp i _=>some [i]|.le i _ _ _=>some [i]|.lr ..=>none|_=>some [])=some z:=h
 cases u:rd env y with
 |lp i j=>
   rw[u]at h;cases h;obtain rfl:b=i:=by simpa using v
   exact .inl ⟨j,rfl⟩
 |le i sz k j=>
   rw[u]at h;cases h;obtain rfl:b=i:=by simpa using v
   exact .inr ⟨sz,k,j,rfl⟩
 |lr i p k=>rw[u]at h;cases h
 |_=>rw[u]at h;cases h;cases v
def Oz{env:Env}{t:Nat}{y:Operand}{u:List Nat}(h:dH env (.load t y)=some u):∀b p k,rd env y≠.lr b p k:=fun b p k e=>by
 have h:(match rd env y with|.lp i _=>some [i]|.le i _ _ _=>some [i]|.lr ..=>none|_=>some [])=some u:=h;rw[e]at h;cases h
def AE{env:Env}{t:Nat}{x i:Operand}{v:List Nat}(h:dH env (.indexAddr t x i)=some v):(∀b,rd env x=.ls b->v=[b])/\∀b∈v,rd env x=.ls b:=by
 have h:(match rd env x with|.ls i=>some [i]|.lv ..=>none|.lo ..=>none|_=>some [])=some v:=h;refine⟨fun b e=>by rw[e]at h;cases h;rfl,fun b y=>?_⟩
 cases u:rd env x with
 |ls i=>
   rw[u]at h;cases h;obtain rfl:b=i:=by simpa using y
   rfl
 |lv b sz a n=>rw[u]at h;cases h
 |lo b p=>rw[u]at h;cases h
 |_=>rw[u]at h;cases h;cases y
def Ox{env:Env}{t:Nat}{x i:Operand}{u:List Nat}(h:dH env (.indexAddr t x i)=some u):(∀b sz a n,rd env x≠.lv b sz a n)/\∀b p,rd env x≠.lo b p:=by
 have h:(match rd env x with|.ls i=>some [i]|.lv ..=>none|.lo ..=>none|_=>some [])=some u:=h;refine⟨fun b sz a n e=>?_,fun b p e=>?_⟩
 ·rw[e]at h;cases h
 ·rw[e]at h;cases h
def AB{env:Env}{b:BinOp}{xt yt:TypeId}{x y:Operand}{u:List Nat}(h:dH env (.binOp b xt x y yt)=some u):u=[]/\∀i,rd env x≠.ls i:=by
 have h:(match rd env x with|.ls _=>none|_=>some [])=some u:=h
 cases v:rd env x with
 |ls i=>rw[v]at h;cases h
 |_=>rw[v]at h;cases h;exact⟨rfl,fun i e=>by cases e⟩
def Ir{P:Program}{b:BinOp}{t:Nat}{s s':SV}{fr fr':Fr}(h:∀i,s≠.ls i):qY P fr b t s s'=qY P fr' b t s s':=by
 unfold qY
 cases s with
 |ls i=>exact absurd rfl (h i)
 |lv i sz a n=>cases s' <;>cases n <;>rfl
 |_=>rfl
theorem wR{fr:Fr}:∀{cs:List SV},cs.all kR=true->bD fr cs=[]
 |[],_=>rfl
 |c::cs,h=>by
  rw[List.all_cons,Bool.and_eq_true]at h;rw[bD,wR h.2];cases c <;>first|rfl|(have h1:false=true:=h.1;cases h1)
def AC{env:Env}{c:Call}{z:List Nat}(h:dH env (.call c)=some z):z=[]/\∃f args tys g pa y,c=⟨.value f,args,tys⟩/\ep (rd env f)=some (g,pa,y)/\(pa++args.toList.map (rd env)++y).all kR=true:=by
 obtain⟨u,args,tys⟩:=c;cases u
 case value f=>
  unfold dH at h;simp only at h;split at h
  ·rename_i g pa y D;split at h
   ·rename_i v;cases h;exact⟨rfl,f,args,tys,g,pa,y,rfl,D,v⟩
   ·cases h
  ·cases h
 all_goals(have h:none=some z:=h;cases h)
theorem Hn{fr fr':Fr}:∀{l:List SV},l.all kR=true->cR fr l=cR fr' l
 |[],_=>rfl
 |c::l,h=>by
  rw[List.all_cons,Bool.and_eq_true]at h;rw[cR,cR,Hn (fr':=fr') h.2];cases c <;>first|rfl|(have h1:false=true:=h.1;cases h1)
theorem BA:∀(bs:List Bool) {l:List SV},l.all kR=true->(br bs l).all kR=true
 |[],l,h=>by cases l <;>rfl
 |b::_,[],h=>by cases b <;>rfl
 |b::bs,c::l,h=>by
  rw[List.all_cons,Bool.and_eq_true]at h;have u:=BA bs h.2
  cases b with
  |true=>exact u
  |false=>show((c::br bs l).all kR)=true;rw[List.all_cons,h.1,u];rfl
def IH{g:Cfg}{C:CallF}{fr u:Fr}{f:Nat}{args:List SV}{x:SV}{ks:List Nat}(v:args.all kR=true)(h:iE g C true fr f args=some (x,fr,ks)):iE g C true u f args=some (x,u,ks):=by
 have I:=BA (aM g f 0 args) v;unfold iE at h⊢;rw[Hn (fr':=u) I]at h;rw[wR I]at h⊢;split at h
 ·cases h
 ·rename_i xs D
  try simp only[D]
  split at h
  ·rename_i U
   try simp only[U]
   split at h
   ·cases h
   ·rename_i r Z J
    try simp only[J]
    split at h
    ·rename_i z;cases h
     try simp only[z]
    ·rename_i z
     try simp only[z]
     try simp only at h
     split at h
     ·rename_i G;cases h;simp only[G]
     ·rename_i G;split at h
      ·rename_i y V;cases h;first|simp only[V]|(split <;>simp_all)
      ·cases h
  ·cases h
def zH{g:Cfg}{C:CallF}{env:Env}{op:Op}{I:List Nat}{fr u:Fr}{x:SV}(hc:mI op=true)(z:dH env op=some I)(hx:ig g C env fr op=some (x,fr,[])):ig g C env u op=some (x,u,[]):=by
 cases op with
 |makeSlice t l c=>
  unfold ig at hx⊢;simp only[mI]at hx⊢;unfold ca tX at hx⊢;simp only at hx⊢;split at hx
  ·rename_i G;cases hx;simp only[G]
  ·cases hx
 |call c=>
  obtain⟨_,U,D,J,fn,V,Z,rfl,y,v⟩:=AC z;unfold ig at hx⊢;simp only[mI]at hx⊢;unfold ca nu at hx⊢;simp only[y]at hx⊢;exact IH v hx
 |_=>cases hc
def AG{P:Program}{env:Env}{op:Op}{v:List Nat}{fr fr':Fr}(h:dH env op=some v)(ha:∀b∈v,fr[b]?=fr'[b]?):bP P fr env op=bP P fr' env op:=by
 cases op
 case load t y=>exact MI (Oz h) fun b z=>ha b (by rw[Oy h b z];simp)
 case binOp b I x y J=>
  have:=Ir (P:=P) (b:=b) (t:=I) (s':=rd env y) (fr:=fr) (fr':=fr') (AB h).2;unfold bP;simp only[this]
 case indexAddr t x i=>exact Lw (Ox h) fun b z=>ha b (by rw[(AE h).1 b z];simp)
 case call c=>
  obtain⟨u,D,G⟩:=c;cases u
  case value f=>rfl
  all_goals(have h:none=some v:=h;cases h)
 all_goals first
  |rfl
  |(have h:none=some v:=h;cases h)
def AF{P:Program}{env:Env}{op:Op}{z:List Nat}{fr:Fr}{x:SV}(h:dH env op=some z)(hx:bP P fr env op=some x):∀b∈z,b <fr.length:=by
 intro b u;cases op
 case load t y=>
  have hx:fW P fr t (rd env y)=some x:=hx;unfold fW at hx
  cases v:fr[b]? with
  |some D=>exact aC v
  |none=>
   rcases FC h b u with⟨j,e⟩|⟨sz,k,j,e⟩
   ·simp only[e,v]at hx;split at hx <;>cases hx
   ·simp only[e,v]at hx;split at hx <;>cases hx
 case indexAddr t y i=>
  have hx:jJ P fr t (rd env y) (rd env i)=some x:=hx;unfold jJ at hx
  cases v:fr[b]? with
  |some D=>exact aC v
  |none=>
   simp only[(AE h).2 b u,v]at hx
   repeat'(split at hx)
   all_goals first|(cases hx;done)|contradiction
 case binOp G I x y J=>rw[(AB h).1]at u;cases u
 case call c=>rw[(AC h).1]at u;cases u
 all_goals first
  |(have h:some []=some z:=h;cases h;cases u;done)
  |(have h:none=some z:=h;cases h)
def AD{op:Op}{e z:Env}(h:∀y∈op.operands,dE e y=dE z y):dH e op=dH z op:=by
 cases op
 case load t y=>unfold dH;simp only[rd,h y (by simp[Op.operands])]
 case binOp b U x y V=>unfold dH;simp only[rd,h x (by simp[Op.operands])]
 case indexAddr t x i=>unfold dH;simp only[rd,h x (by simp[Op.operands])]
 case call c=>
  obtain⟨u,v,J⟩:=c;cases u
  case value f=>
   have D:rd e f=rd z f:=congrArg un (h f (by simp[Op.operands,Call.operands]));have G:v.toList.map (rd e)=v.toList.map (rd z):=List.map_congr_left fun y I=>congrArg un (h y (by simp only[Op.operands,Call.operands];simp;exact .inr (by simpa using I)));unfold dH;simp only[D,G]
  all_goals rfl
 all_goals rfl
def R0{op:Op}{e z:Env}(h:∀y∈op.operands,dE e y=dE z y):gL e op=gL z op:=by
 cases op
 case store t a x=>unfold gL;simp only[rd,h a (by simp[Op.operands]),h x (by simp[Op.operands])]
 case call c=>
  obtain⟨v,u,V⟩:=c;cases v
  case builtin b=>
   cases b
   case copy=>
    unfold gL
    cases D:u.toList with
    |nil=>simp only[D]
    |cons x l=>
     have J:dE e x=dE z x:=h x (by
      have:x∈u.toList:=by rw[D];simp
      simp only[Op.operands,Call.operands];simpa using this)
     cases l with
     |nil=>simp only[D]
     |cons y l=>cases l <;>simp only[D,rd,J]
   all_goals rfl
  case value f=>
   have G:rd e f=rd z f:=congrArg un (h f (by simp[Op.operands,Call.operands]));have I:u.toList.map (rd e)=u.toList.map (rd z):=List.map_congr_left fun y U=>congrArg un (h y (by simp only[Op.operands,Call.operands];simp;exact .inr (by simpa using U)));unfold gL;simp only[G,I]
  all_goals rfl
 all_goals rfl
theorem DA:∀(bs:List Bool) {l:List SV},l.all kR=true->fc bs l=[]
 |[],l,h=>by cases l <;>rfl
 |b::_,[],h=>by cases b <;>rfl
 |b::bs,c::l,h=>by
  rw[List.all_cons,Bool.and_eq_true]at h;have u:=DA bs h.2
  cases b with
  |false=>exact u
  |true=>
   show c.refs++fc bs l=[]
   rw[u];cases c <;>first|rfl|(have h1:false=true:=h.1;cases h1)
def R4{g:Cfg}{C:CallF}{env:Env}{fr fr':Fr}{op:Op}{x:SV}{ks wl:List Nat}(h:gL env op=some wl)(hx:cd g C env fr op=some (x,fr',ks)):∀b,b∉wl->b <fr.length->fr'[b]?=fr[b]?:=by
 cases op
 case alloc T=>
  unfold cd ca at hx;simp only[iL]at hx;split at hx
  ·cases hx;intro b _ D;exact List.getElem?_append_left D
  ·cases hx
 case box T y=>
  unfold cd ca at hx;simp only[iL]at hx;split at hx
  ·cases hx;intro b _ D;exact List.getElem?_append_left D
  ·cases hx
 case makeSlice t l c=>
  unfold cd ca iO at hx;simp only[iL]at hx
  repeat'(split at hx)
  all_goals first
   |(cases hx;intro b _ D;exact List.getElem?_append_left D)
   |(cases hx;done)
 case store t a y=>
  unfold cd ca iV at hx;simp only[iL]at hx;unfold gL at h;intro b D I;split at hx
  ·cases hx
  ·split at hx
   ·cases hx
   ·cases Z:rd env a with
    |lp i j=>
     simp only[Z]at h hx;cases h;split at hx
     ·split at hx
      ·cases hx;exact List.getElem?_set_ne (by intro e;exact D (by simp[e]))
      ·cases hx
     ·cases hx
    |le i sz k j=>
     simp only[Z]at h hx;split at h
     ·rename_i z;cases h;split at hx
      ·split at hx
       ·cases hx
       ·split at hx
        ·cases hx
        ·split at hx
         ·cases hx
         ·split at hx
          ·cases hx
          ·split at hx
           ·cases hx
           ·cases hx;rw[wR z];exact List.getElem?_set_ne (by intro e;exact D (by simp[e]))
      ·cases hx
     ·cases h
    |_=>simp only[Z]at h;cases h
 case call c=>
  obtain⟨G,ab,ad⟩:=c;cases G
  case builtin b'=>
   cases b'
   case copy=>
    unfold cd ca at hx;simp only[iL]at hx;unfold gL at h;split at hx
    ·rename_i u v t u' hl ht;simp only[hl]at h;intro b D I
     have V:∀(i:Nat),wl=[i]->∀zs sz a n,ox fr zs i sz a n=some (x,fr',ks)->fr'[b]?=fr[b]?:=fun i hi zs sz a n J=>by
      unfold ox at J;split at J
      ·split at J
       ·cases J;exact List.getElem?_set_ne (by intro e;exact D (by simp[hi,e]))
       ·cases J
      ·cases J
     unfold lA at hx;split at hx
     ·cases hx
     ·split at hx
      ·cases hx
      ·split at hx
       ·cases hx
       ·split at hx
        ·rename_i hu;simp only[hu]at h;cases h;split at hx
         ·exact V _ rfl _ _ _ _ hx
         ·cases hx
        ·rename_i hu;simp only[hu]at h;cases h;split at hx
         ·exact V _ rfl _ _ _ _ hx
         ·cases hx
        ·cases hx
    ·cases hx
   all_goals(unfold gL at h;cases h)
  case value f=>
   unfold cd ca nu at hx;simp only[iL]at hx;unfold gL at h;simp only at h;split at h
   ·rename_i f' pa qa U;simp only[U]at hx;split at h
    ·rename_i z;intro b _ I;unfold iE at hx;rw[DA _ z,wR (BA _ z)]at hx;split at hx
     ·cases hx
     ·have e0:cE [] ([]:List Nat)=[]:=rfl;rw[e0]at hx;simp only at hx;split at hx
      ·cases hx
      ·split at hx
       ·cases hx;rfl
       ·cases hx;exact List.getElem?_append_left I
    ·cases h
   ·cases h
  all_goals(unfold gL at h;cases h)
 all_goals(unfold gL at h;cases h)
def QK{ops:Array Oper}{op:Op}{j m:Nat}(h:o_ ops op j m=true){t:Nat}(ht:.tmp t∈op.operands):∀(q:Nat) (u:Oper),j<=q->q <m->ops[q]?=some u->u.dst≠some t:=by
 intro q u D y z hd;have h1:=List.all_eq_true.1 h q (List.mem_range.2 y);have v:Nat.blt q j=false:=by rw[<- Bool.not_eq_true,Nat.blt_eq];omega
 rw[v,z]at h1;simp only[hd,Bool.false_or,Bool.not_eq_true']at h1
 have:t∈uF op:=by
  unfold uF;rw[List.mem_filterMap];exact⟨.tmp t,Array.mem_toList_iff.2 ht,rfl⟩
 exact absurd this (fP.1 h1)
def yQ{w r:Option (List Nat)}(h:vt w r=true):∃v u,w=some v/\r=some u/\∀b∈u,b∉v:=by
 unfold vt at h;split at h
 ·rename_i v u;refine⟨v,u,rfl,rfl,fun b y z=>?_⟩;have:=List.all_eq_true.1 h b z;rw[Bool.not_eq_true']at this;exact fP.1 this y
 ·cases h
section
variable {g:Cfg} {γ:Glob} {κ:Ctx} {C:CallF} {ops:Array Oper} {effs:List Nat} {n:Nat} {E:Nat->Env} {F:Nat->Fr}
abbrev jx(g:Cfg)(C:CallF)(ops:Array Oper)(effs:List Nat)(E:Nat->Env)(F:Nat->Fr):Prop:=∀(i:Nat) (o:Oper),ops[i]?=some o->mr g C effs ops i o (E i) (F i) (E (i+1)) (F (i+1))
abbrev nr(g:Cfg)(C:CallF)(ops:Array Oper)(effs:List Nat)(E:Nat->Env)(F:Nat->Fr)(B:Nat):Prop:=B<=ops.size/\∀(i:Nat) (o:Oper),i <B->ops[i]?=some o->mr g C effs ops i o (E i) (F i) (E (i+1)) (F (i+1))
def xu(u:jx g C ops effs E F):nr g C ops effs E F ops.size:=⟨Nat.le_refl _,fun i o _ v=>u i o v⟩
variable {B:Nat}
theorem sF(u:nr g C ops effs E F B)(t j:Nat):∀i,j<=i->i<=B->(∀(k:Nat) (o:Oper),j<=k->k <i->ops[k]?=some o->o.dst≠some t)->E i t=E j t
 |0,h,_,_=>by
   obtain rfl:j=0:=by omega
   rfl
 |i+1,h,I,y=>by
  rcases Nat.lt_or_ge i j with h1|h1
  ·obtain rfl:j=i+1:=by omega
   rfl
  ·have G:=u.1;have z:=Array.getElem?_eq_getElem (xs:=ops) (i:=i) (by omega);have hd:=y i _ h1 (by omega) z
   have e:E (i+1) t=E i t:=by
    have:=(u.2 i _ (by omega) z).2;split at this
    ·obtain⟨x,_,h2⟩:=this;rw[h2,ld hd]
    ·rcases this with⟨_,x,_,h2⟩|⟨_,_,h2⟩
     ·rw[h2,ld hd]
     ·rw[h2,ld hd]
   rw[e];exact sF u t j i h1 (by omega) fun k o v D=>y k o v (by omega)
def po(u:jx g C ops effs E F)(t j:Nat)(i:Nat)(h:j<=i)(hi:i<=ops.size)(hk:∀(k:Nat) (o:Oper),j<=k->k <i->ops[k]?=some o->o.dst≠some t):E i t=E j t:=sF (xu u) t j i h hi hk
def uR(v:nr g C ops effs E F B){i:Nat}(hi:i <B)(hn:i∉effs):F (i+1)=F i:=by
 have y:=v.1;have:=(v.2 i _ hi (Array.getElem?_eq_getElem (by omega))).2
 have u:∀{op x},step g C (some effs) i (E i) (F i) op=some (x,F (i+1),[])->F (i+1)=F i:=fun{op x} h=>by
  unfold step at h;simp only[fP.2 hn]at h;exact(vH h).1
 split at this
 ·obtain⟨x,h2,_⟩:=this;exact u h2
 ·rcases this with⟨_,x,h2,_⟩|⟨_,h2,_⟩
  ·exact u h2
  ·exact h2
theorem sG(u:nr g C ops effs E F B)(j:Nat):∀i,j<=i->i<=B->(∀m,j<=m->m <i->m∉effs)->F i=F j
 |0,h,_,_=>by
   obtain rfl:j=0:=by omega
   rfl
 |i+1,h,y,v=>by
  rcases Nat.lt_or_ge i j with h1|h1
  ·obtain rfl:j=i+1:=by omega
   rfl
  ·rw[uR u (by omega) (v i h1 (by omega))];exact sG u j i h1 (by omega) fun m h2 h3=>v m h2 (by omega)
def uS(u:jx g C ops effs E F)(j:Nat)(i:Nat)(h:j<=i)(hi:i<=ops.size)(hm:∀m,j<=m->m <i->m∉effs):F i=F j:=sG (xu u) j i h hi hm
theorem uT(u:nr g C ops effs E F B)(s b:Nat)(hb:b <(F s).length):∀e,s<=e->e<=B->(∀(m:Nat) (om:Oper),s<=m->m <e->m∈effs->ops[m]?=some om->∃J,gL (E m) om.op=some J/\b∉J)->(F e)[b]?=(F s)[b]?
 |0,h,_,_=>by
   obtain rfl:s=0:=by omega
   rfl
 |e+1,h,he,Z=>by
  rcases Nat.lt_or_ge e s with h1|h1
  ·obtain rfl:s=e+1:=by omega
   rfl
  ·have hB:=u.1;have I:=uT u s b hb e h1 (by omega) fun m om h2 h3=>Z m om h2 (by omega);rw[<- I];by_cases z:e∈effs
   ·have V:=Array.getElem?_eq_getElem (xs:=ops) (i:=e) (by omega);obtain⟨J,G,D⟩:=Z e _ h1 (by omega) z V
    have y:b <(F e).length:=by
     obtain⟨lb,v⟩:=aj hb;rw[v]at I;exact aC I
    have U:∀{x},step g C (some effs) e (E e) (F e) (ops[e]'(by omega)).op=some (x,F (e+1),[])->(F (e+1))[b]?=(F e)[b]?:=fun{x} h=>by
     unfold step at h
     have hh:bS effs e=true:=by
      rw[<- Bool.not_eq_false];exact fun hf=>fP.1 hf z
     simp only[hh]at h;exact R4 G h b D y
    have:=(u.2 e _ (by omega) V).2;split at this
    ·obtain⟨x,h2,_⟩:=this;exact U h2
    ·rcases this with⟨_,x,h2,_⟩|⟨_,h2,_⟩
     ·exact U h2
     ·rw[h2]
   ·rw[uR u (by omega) z]
def tg(D:nr g C ops effs E F B){op:Op}{j m:Nat}(u:j<=m)(hm:m<=B)(h:o_ ops op j m=true):∀y∈op.operands,dE (E m) y=dE (E j) y:=by
 intro y I
 cases y with
 |tmp t=>exact sF D t j m u hm fun k o G v z=>QK h I k o G v z
 |_=>rfl
def Kj(v:jx g C ops effs E F){op:Op}{j m:Nat}(u:j<=m)(hm:m<=ops.size)(h:o_ ops op j m=true):∀y∈op.operands,dE (E m) y=dE (E j) y:=tg (xu v) u hm h
structure dl (γ:Glob) (κ:Ctx) (ops:Array Oper) (effs:List Nat) (n:Nat) (E:Nat->Env) (F:Nat->Fr) (p:Nat) (L:Ls) (listed:Array Bool) (a:Act) (w:World):Prop where
 hd:Marks κ w a.defers
 hn:a.tmps.size=n
 hs:listed.size=ops.size
 hp:p<=ops.size
 low:∀e∈effs,e <p->listed.getD e true=true
 p6:∀e∈effs,p<=e->e <ops.size->listed.getD e true=false
 bw:aw γ κ (F p) L w
 done:∀(k:Nat) (o:Oper) (t:Nat),ops[k]?=some o->o.dst=some t->listed.getD k true=true->SR (MA κ.M (F p) L) L w (E (k+1) t) (a.tmps.getD t undef)
 rest:∀(t:Nat),(∀(k:Nat) (o:Oper),ops[k]?=some o->o.dst=some t->listed.getD k true=false)->SR (MA κ.M (F p) L) L w (E 0 t) (a.tmps.getD t undef)
 dm:∀(k:Nat) (o:Oper),ops[k]?=some o->listed.getD k true=true->∀e∈o.after,Region.binds .any e=true->listed.getD e.on false=true
variable {p:Nat} {L:Ls} {listed:Array Bool} {a:Act} {w:World} {E':Nat->Env}
def dl.start(hd:Marks κ w a.defers)(hn:a.tmps.size=n)(z:aw γ κ (F 0) L w)(D:∀t,SR (MA κ.M (F 0) L) L w (E 0 t) (a.tmps.getD t undef)):dl γ κ ops effs n E F 0 L (Array.replicate ops.size false) a w where
 hd:=hd
 hn:=hn
 hs:=by simp
 hp:=Nat.zero_le _
 low:=fun e _ h=>by omega
 p6:=fun e _ _ G=>by rw[Array.getD_eq_getD_getElem?,Array.getElem?_replicate,if_pos G];rfl
 bw:=z
 done:=fun k o t y _ u=>by
  have v:=(Array.getElem?_eq_some_iff.1 y).1;rw[Array.getD_eq_getD_getElem?,Array.getElem?_replicate,if_pos v]at u;cases u
 rest:=fun t _=>D t
 dm:=fun k o y u=>by
  have v:=(Array.getElem?_eq_some_iff.1 y).1;rw[Array.getD_eq_getD_getElem?,Array.getElem?_replicate,if_pos v]at u;cases u
def dl.jy(h:dl γ κ ops effs n E F p L listed a w){i k:Nat}(ha:gM ops i k):(∀(o:Oper),ops[i]?=some o->∀e∈o.after,Region.binds .any e=true->listed.getD e.on false=true)->listed.getD k true=true:=by
 induction ha with
 |one i o e z v u=>intro y;exact gA (y o z e v u)
 |more i k o e z v u ha G=>
  intro y;have h1:=gA (y o z e v u);exact G fun I D=>h.dm e.on I D h1
def dl.slot(hok:qQ ops effs)(I:jx g C ops effs E F)(h:dl γ κ ops effs n E F p L listed a w){i t:Nat}(hi:i<=ops.size)
  (h1:∀(k:Nat) (ok:Oper),ops[k]?=some ok->ok.dst=some t->listed.getD k true=true->k <i)(h2:∀(k:Nat) (ok:Oper),ops[k]?=some ok->ok.dst=some t->listed.getD k true=false->i<=k):SR (MA κ.M (F p) L) L w (E i t) (a.tmps.getD t undef):=by
 by_cases v:∃(k:Nat) (ok:Oper),ops[k]?=some ok/\ok.dst=some t/\listed.getD k true=true
 ·obtain⟨k,ok,u,hd,z⟩:=v;have D:=h1 k ok u hd z;rw[po I t (k+1) i (by omega) hi fun m om J U G=>hok.dst m om k ok t G u (by omega) hd];exact h.done k ok t u hd z
 ·have y:∀(k:Nat) (o:Oper),ops[k]?=some o->o.dst=some t->listed.getD k true=false:=fun k o u hd=>by
   rw[<- Bool.not_eq_true];exact fun z=>v ⟨k,o,u,hd,z⟩
  rw[po I t 0 i (Nat.zero_le _) hi fun k o _ D u hd=>by have:=h2 k o u hd (y k o u hd);omega];exact h.rest t y
def u2(hok:DrawB ops){listed:Array Bool}(hs:listed.size=ops.size)(hr:Region.ready .any ops listed=[]):∀k,k <ops.size->listed.getD k true=true:=by
 intro k
 induction k using Nat.strongRecOn with
 |_ k ih=>
  intro v;rw[<- Bool.not_eq_false];intro G
  have y:k∈Region.ready .any ops listed:=mem_ready.2 ⟨G,ops[k],Array.getElem?_eq_getElem v,fun e D z=>by
   have u:=hok.back k _ (Array.getElem?_eq_getElem v) e D z;exact zB (by rw[hs];omega) (ih e.on u (by omega))⟩
  rw[hr]at y;cases y
def Ow{fr:Fr}{env:Env}{op:Op}{z:List Nat}(D:aw γ κ fr L w)(h:dH env op=some z)(G:∀y∈op.operands,SR (MA κ.M fr L) L w (dE env y) (a.eval y)):∀b∈z,b <fr.length:=by
 have v:∀y∈op.operands,∀b,(∃j,rd env y=.lp b j)\/(∃sz k j,rd env y=.le b sz k j)\/rd env y=.ls b->b <fr.length:=fun y I b u=>by
  have h1:=cF (G y I);rcases u with⟨j,u⟩|⟨sz,k,j,u⟩|u
  ·rw[u]at h1;obtain⟨g,h2,_⟩:=lI h1;exact D.lim _ _ h2
  ·rw[u]at h1;obtain⟨_,_,_,h2,_⟩:=p7 h1;exact D.lim _ _ h2
  ·rw[u]at h1;obtain⟨h2,_⟩:=kP h1;exact D.lim _ _ h2
 intro b u;cases op
 case load t y=>
  refine v y (by simp[Op.operands]) b ?_;rcases FC h b u with⟨j,e⟩|⟨sz,k,j,e⟩
  ·exact .inl ⟨j,e⟩
  ·exact .inr (.inl ⟨sz,k,j,e⟩)
 case indexAddr t x i=>exact v x (by simp[Op.operands]) b (.inr (.inr ((AE h).2 b u)))
 case binOp J U x y V=>rw[(AB h).1]at u;cases u
 case call c=>rw[(AC h).1]at u;cases u
 all_goals first
  |(have h:some []=some z:=h;cases h;cases u;done)
  |(have h:none=some z:=h;cases h)
def Et(V:nr g C ops effs E F B)(h:dl γ κ ops effs n E' F p L listed a w){i:Nat}{o:Oper}(ho:ops[i]?=some o)(hl:listed.getD i true=false)(D:i∉effs){m:Nat}{om:Oper}(h1:i <m)(h2:m <p)(G:m <B)(h3:m∈effs)(J:ops[m]?=some om):∃y v,gL (E m) om.op=some y/\dH (E i) o.op=some v/\∀b∈v,b∉y:=by
 have z:((Region.before ops).getD m 0).testBit i=false:=by
  rw[<- Bool.not_eq_true];intro z;have:=h.jy (ns z) fun o' I=>h.dm m o' I (h.low m h3 h2);rw[hl]at this;cases this
 have u:=List.all_eq_true.1 (V.2 m om G J).1 i (List.mem_range.2 h1);unfold vR at u;have hm:bS effs m=true:=by rw[<- Bool.not_eq_false];exact fun u=>fP.1 u h3
 simp only[J,ho,hm,fP.2 D,z,Bool.false_or,Bool.and_eq_true]at u;obtain⟨y,v,e1,U,e3⟩:=yQ u.2;have Z:=(Array.getElem?_eq_some_iff.1 J).1;rw[AD (tg V (by omega) (by omega) u.1)]at U;exact⟨y,v,e1,U,e3⟩
def Eu(G:nr g C ops effs E F B)(h:dl γ κ ops effs n E' F p L listed a w)(hp:p<=B){i:Nat}{o:Oper}(ad:i <B)(ho:ops[i]?=some o)(hl:listed.getD i true=false)(v:i∉effs)(I:∀k,gM ops i k->listed.getD k true=true)
  (aD:∀y∈o.op.operands,SR (MA κ.M (F p) L) L w (dE (E i) y) (a.eval y)){x:SV}(hx:step g C (some effs) i (E i) (F i) o.op=some (x,F (i+1),[])):step g C (some effs) i (E i) (F p) o.op=some (x,F p,[]):=by
 have hB:=G.1;have aJ:=hx;unfold step at hx⊢;simp only[fP.2 v]at hx⊢;have au:=uR G ad v;rw[au]at hx
 -- the effects between
 have up:∀(m:Nat) (om:Oper),p<=m->m <i->m∈effs->ops[m]?=some om->∃D J,gL (E m) om.op=some D/\dH (E i) o.op=some J/\∀b∈J,b∉D:=fun m om h1 h2 h3 kH=>by
  have U:((Region.before ops).getD i 0).testBit m=false:=by
   rw[<- Bool.not_eq_true];intro U;have:=I m (ns U);rw[h.p6 m h3 h1 (by omega)]at this;cases this
  have hf:=List.all_eq_true.1 (G.2 i o ad ho).1 m (List.mem_range.2 h2);unfold vR at hf;have hm:bS effs m=true:=by rw[<- Bool.not_eq_false];exact fun hf=>fP.1 hf h3
  simp only[kH,ho,hm,fP.2 v,U,Bool.false_or,Bool.and_eq_true]at hf;obtain⟨D,J,e1,Z,e3⟩:=yQ hf.2;rw[R0 (tg G (by omega) (by omega) hf.1)]at e1;exact⟨D,J,e1,Z,e3⟩
 have dn:=fun(m:Nat) (om:Oper) (h1:i <m) (h2:m <p) (h3:m∈effs) (h4:ops[m]?=some om)=>Et G h ho hl v h1 h2 (by omega) h3 h4;by_cases ab:∃m,m∈effs/\((p<=m/\m <i)\/(i <m/\m <p))
 ·obtain⟨m,ag,u⟩:=ab;have V:m <ops.size:=by have:=hp;omega
  obtain⟨_,J,_,z,_⟩:∃D J,gL (E m) (ops[m]).op=some D/\dH (E i) o.op=some J/\∀b∈J,b∉D:=by
   rcases u with u|u
   ·exact up m _ u.1 u.2 ag (Array.getElem?_eq_getElem V)
   ·exact dn m _ u.1 u.2 ag (Array.getElem?_eq_getElem V)
  cases ai:mI o.op with
  |true=>exact zH ai z hx
  |false=>
  unfold ig at hx⊢;simp only[ai]at hx⊢;obtain⟨al,_,_⟩:=uM hx;have av:=AF z al
  have ao:∀b∈J,(F i)[b]?=(F p)[b]?:=fun b U=>by
   rcases Nat.lt_or_ge i p with h1|h1
   ·refine(uT G i b (av b U) p (by omega) hp fun m om h2 h3 h4 h5=>?_).symm;have aB:m≠i:=fun e=>v (by rw[<- e];exact h4);obtain⟨D,aG,e1,Z,e3⟩:=dn m om (by omega) h3 h4 h5;rw[z]at Z;cases Z;exact⟨D,e1,e3 b U⟩
   ·have aq:b <(F p).length:=Ow h.bw z aD b U;refine uT G p b aq i h1 (by omega) fun m om h2 h3 h4 h5=>?_;obtain⟨D,aG,e1,Z,e3⟩:=up m om h2 h3 h4 h5;rw[z]at Z;cases Z;exact⟨D,e1,e3 b U⟩
  rw[<- AG z ao,al];rfl
 ·have an:F i=F p:=by
   rcases Nat.lt_or_ge i p with h1|h1
   ·refine(sG G i p (by omega) hp fun m h2 h3 h4=>?_).symm;have aB:m≠i:=fun e=>v (by rw[<- e];exact h4);exact ab ⟨m,h4,.inr ⟨by omega,h3⟩⟩
   ·exact sG G p i h1 (by omega) fun m h2 h3 h4=>ab ⟨m,h4,.inl ⟨h2,h3⟩⟩
  rw[<- an];exact hx
def RV{rd:Option Nat}{dn:Nat}(hS:eK g.P γ C)(hok:qQ ops effs)(bl:iI n ops.toList=true)(hE:jx g C ops effs E F){Q:Exit->Act->World->Prop}
  (hK:∀L a w,Marks κ w a.defers->a.tmps.size=n->aw γ κ (F ops.size) L w->(∀t,SR (MA κ.M (F ops.size) L) L w (E ops.size t) (a.tmps.getD t undef))->Q .normal a w):
  ∀(I:Nat) (p:Nat) (L:Ls) (listed:Array Bool) (a:Act) (w:World),eW listed ops.size<=I->dl γ κ ops effs n E F p L listed a w->wpAnyIn (Fw rd) dn g.P .any ops Q I listed a w:=by
 have aB:∀(i:Nat) (o:Oper),ops[i]?=some o->∀d,o.dst=some d->d <n:=fun i o Z d hd=>jD bl (Array.mem_toList_iff.2 (Array.mem_of_getElem? Z)) hd
 have fin:∀(p:Nat) (L:Ls) (listed:Array Bool) (a:Act) (w:World),(∀k,k <ops.size->listed.getD k true=true)->dl γ κ ops effs n E F p L listed a w->Q .normal a w:=fun p L listed a w ad h=>by
  have hm:∀m,p<=m->m <ops.size->m∉effs:=fun m h1 h2 h3=>by
   have:=h.p6 m h3 h1 h2;rw[ad m h2]at this;cases this
  have hF:=uS hE p ops.size h.hp (Nat.le_refl _) hm;refine hK L a w h.hd h.hn (by rw[hF];exact h.bw) fun t=>?_;rw[hF]
  exact h.slot hok hE (Nat.le_refl _) (fun k ok D _ _=>(Array.getElem?_eq_some_iff.1 D).1) (fun k ok D _ hl=>by
   have:=ad k (Array.getElem?_eq_some_iff.1 D).1;rw[hl]at this;cases this)
 intro I
 induction I with
 |zero=>
  intro p L listed a w hu h;have ad:=sB (listed:=listed) ops.size (by omega);refine⟨?_,fin p L listed a w ad h⟩
  cases hr:Region.ready .any ops listed with
  |nil=>rfl
  |cons i l=>
   have hm:i∈Region.ready .any ops listed:=by rw[hr];simp
   obtain⟨hl,o,Z,_⟩:=mem_ready.1 hm;have:=ad i (Array.getElem?_eq_some_iff.1 Z).1;rw[hl]at this;cases this
 |succ I ih=>
  intro p L listed a w hu h;refine⟨fun hr=>fin p L listed a w (u2 hok.toDrawB h.hs hr) h,fun i hi=>?_⟩;obtain⟨hl,o,Z,al⟩:=mem_ready.1 hi;have J:=(Array.getElem?_eq_some_iff.1 Z).1;have b3:=hE i o Z
  have b4:eW (listed.setIfInBounds i true) ops.size<=I:=by
   have:=qL hl ops.size;rw[if_pos J]at this;omega
  have ab:∀k,gM ops i k->listed.getD k true=true:=fun k ha=>h.jy ha fun o' a8=>by rw[Z]at a8;cases a8;exact al
  have an:∀k,dM o k=true->listed.getD k true=true/\k <i:=fun k D=>by
   obtain⟨e,V,hb,rfl⟩:=jg D;exact⟨gA (al e V hb),hok.back i o Z e V hb⟩
  have aR:∀t,(.tmp t∈o.op.operands\/∃j oj,ops[j]?=some oj/\oj.dst=some t/\dM o j=true)->SR (MA κ.M (F p) L) L w (E i t) (a.tmps.getD t undef):=fun t ht=>by
   refine h.slot hok hE (by omega) (fun k ok D hd G=>?_) (fun k ok D hd G=>?_)
   ·have U:k≠i:=fun e=>by subst e;rw[hl]at G;cases G
    rcases ht with hy|⟨j,oj,ag,aq,aD⟩
    ·rcases hok.use i o k ok t Z D U hd hy with h1|h1
     ·exact(an k h1).2
     ·obtain⟨e,V,hb,rfl⟩:=jg h1;have:=gA (h.dm k ok D G e V hb);rw[hl]at this;cases this
    ·by_cases aG:k=j
     ·subst aG;exact(an k aD).2
     ·exact absurd aq (hok.dst j oj k ok t ag D aG hd)
   ·rcases Nat.lt_or_ge k i with aJ|a6
    ·rcases ht with hy|⟨j,oj,ag,aq,aD⟩
     ·rcases hok.use i o k ok t Z D (by omega) hd hy with h1|h1
      ·have:=(an k h1).1;rw[G]at this;cases this
      ·obtain⟨e,V,hb,rfl⟩:=jg h1;have:=hok.back k ok D e V hb;omega
     ·by_cases aG:k=j
      ·subst aG;have:=(an k aD).1;rw[G]at this;cases this
      ·exact absurd aq (hok.dst j oj k ok t ag D aG hd)
    ·exact a6
  have bh:∀y∈o.op.operands,SR (MA κ.M (F p) L) L w (dE (E i) y) (a.eval y):=fun y hy=>by
   cases y with
   |const v=>exact kz v
   |global g=>exact .dead _
   |func f=>exact .t _ _ (.fn _ [] #[] #[] rfl (fun j x u hx _=>by simp at hx))
   |tmp t=>exact aR t (.inl hy)
  -- an effect comes up where its turn is
  have bb:i∈effs->F i=F p:=fun z=>by
   have b1:p<=i:=by
    rcases Nat.lt_or_ge i p with h1|h1
    ·have:=h.low i z h1;rw[hl]at this;cases this
    ·exact h1
   refine uS hE p i b1 (by omega) fun m h1 h2 h3=>?_;have:=ab m (hok.eff i z m h3 J h2);rw[h.p6 m h3 h1 (by omega)]at this;cases this
  -- what an operation that is no effect gives,it gives here too
  have ao:∀{x},step g C (some effs) i (E i) (F i) o.op=some (x,F (i+1),[])->step g C (some effs) i (E i) (F p) o.op=some (x,(if i∈effs then F (i+1)else F p),[]):=fun{x} hx=>by
   by_cases z:i∈effs
   ·rw[if_pos z,<- bb z];exact hx
   ·rw[if_neg z];exact Eu (xu hE) h (by have:=h.hp;omega) J Z hl z ab bh hx
  -- what comes behind this operation,once it is carried out
  have next:∀(v:Value) (w':World) (L':Ls) (x:SV) (f1:Fr),f1=(if i∈effs then F (i+1)else F p)->Tr κ.M (F p) L w f1 L' w' []->aw γ κ f1 L' w'->SR (MA κ.M f1 L') L' w' x v->E (i+1)=aH (E i) o.dst x->wpAnyIn (Fw rd) dn g.P .any ops Q I (listed.setIfInBounds i true) (a.put o.dst v) w':=fun v w' L' x f1 bm hT av hv ai=>by
   obtain⟨q,hq,b2,bz,bf⟩:∃q,f1=F q/\q<=ops.size/\(∀e∈effs,e <q->(listed.setIfInBounds i true).getD e true=true)/\(∀e∈effs,q<=e->e <ops.size->(listed.setIfInBounds i true).getD e true=false):=by
    by_cases z:i∈effs
    ·refine⟨i+1,by rw[bm,if_pos z],J,fun e V aJ=>?_,fun e V a6 be=>?_⟩
     ·by_cases au:e=i
      ·subst au;rw[Array.getD_eq_getD_getElem?,Array.getElem?_setIfInBounds_self_of_lt (by rw[h.hs];exact J)];rfl
      ·rw[getD_set_ne true (Ne.symm au)];exact ab e (hok.eff i z e V J (by omega))
     ·rw[getD_set_ne true (by omega),<- Bool.not_eq_true];intro b0;have:=h.jy (hok.eff e V i z be (by omega)) fun o' a8=>h.dm e o' a8 b0;rw[hl]at this;cases this
    ·refine⟨p,by rw[bm,if_neg z],h.hp,fun e V aJ=>?_,fun e V a6 be=>?_⟩
     ·have au:e≠i:=fun e'=>z (by rw[<- e'];exact V);rw[getD_set_ne true (Ne.symm au)];exact h.low e V aJ
     ·have au:e≠i:=fun e'=>z (by rw[<- e'];exact V);rw[getD_set_ne true (Ne.symm au)];exact h.p6 e V a6 be
   subst hq;refine ih q L' _ _ _ b4 ⟨?_,?_,?_,b2,bz,bf,av,fun k ok t D hd G=>?_,fun t ht=>?_,fun k ok D G e V bi=>?_⟩
   ·rw[put_defers];exact h.hd.tr h.bw hT
   ·rw[bY,h.hn]
   ·rw[Array.size_setIfInBounds];exact h.hs
   ·by_cases U:k=i
    ·subst U;rw[Z]at D;cases D;rw[ai,hd,fE (by rw[h.hn];exact aB k o Z t hd)];show SR _ _ _ (c9 _ t x t) v
     rw[iA];exact hv
    ·rw[ce (hok.dst i o k ok t Z D U hd)];rw[getD_set_ne true (Ne.symm U)]at G;exact hT.sr (h.done k ok t D hd G)
   ·have bx:o.dst≠some t:=fun hd=>by
     have aJ:i <listed.size:=by rw[h.hs];exact J
     have:=ht i o Z hd;rw[Array.getD_eq_getD_getElem?,Array.getElem?_setIfInBounds_self_of_lt aJ]at this;cases this
    rw[ce bx];refine hT.sr (h.rest t fun k ok D hd=>?_);have U:k≠i:=fun e=>by subst e;rw[Z]at D;cases D;exact bx hd
    have:=ht k ok D hd;rw[getD_set_ne true (Ne.symm U)]at this;exact this
   ·by_cases U:k=i
    ·subst U;rw[Z]at D;cases D;exact getD_set_true (al e V bi)
    ·rw[getD_set_ne true (Ne.symm U)]at G;exact getD_set_true (h.dm k ok D G e V bi)
  have h2:=b3.2;unfold wpOpIn;simp only[Z]
  cases hg:o.guard with
  |none=>
   rw[hg]at h2;obtain⟨x,aX,ai⟩:=h2;rw[if_pos (by simp[Region.wanted,hg])];exact(iv hS (ao aX) κ L a w h.bw bh).wpIn fun v w' ⟨L',hT,av,hv⟩=>next v w' L' x _ rfl hT av hv ai
  |some gj=>
   obtain⟨j,bd⟩:=gj;rw[hg]at h2;have aD:=hok.guard i o j bd Z hg
   have bT:∀W,cP ops (E i) j bd=some W->Region.wanted o (yielded ops a.tmps)=W:=fun W hW=>pm (A:=MA κ.M (F p) L) (L:=L) (w:=w) hg hW fun d a1=>by
    cases ag:ops[j]? with
    |none=>rw[ag]at a1;cases a1
    |some oj=>
     rw[ag]at a1;have aq:oj.dst=some d:=a1;exact⟨aR d (.inr ⟨j,oj,ag,aq,aD⟩),by rw[h.hn];exact aB j oj ag d aq⟩
   rcases h2 with⟨hW,x,aX,ai⟩|⟨hW,bU,ai⟩
   ·rw[bT _ hW,if_pos rfl];exact(iv hS (ao aX) κ L a w h.bw bh).wpIn fun v w' ⟨L',hT,av,hv⟩=>next v w' L' (.aV x) _ rfl hT av (.aV _ _ hv) ai
   ·rw[bT _ hW,if_neg (by simp)];refine⟨fun _ _=>trivial,next undef w L .no (F p) ?_ Tr.refl h.bw .no ai⟩;by_cases z:i∈effs
    ·rw[if_pos z,bU,bb z]
    ·rw[if_neg z]
end
def r8{cs:List SV}{i:Nat}(h:i∈SV.iS cs):∃(j:Nat) (c:SV),cs[j]?=some c/\i∈c.refs:=by
 induction cs with
 |nil=>rw[SV.iS]at h;cases h
 |cons d ds u=>
  rw[SV.iS,List.mem_append]at h;rcases h with h|h
  ·exact⟨0,d,rfl,h⟩
  ·obtain⟨j,c,h1,h2⟩:=u h;exact⟨j+1,c,by simpa using h1,h2⟩
def SR.reach{A:Nat->Prop}{L:Ls}{w:World}{x:SV}{v:Value}(h:SR A L w x v):∀i∈x.refs,∃u,L i=some u:=by
 induction h with
 |t=>intro i y;rw[SV.refs]at y;cases y
 |nil=>intro i y;rw[SV.refs]at y;cases y
 |tc=>intro i y;rw[SV.refs]at y;cases y
 |nn=>intro i y;rw[SV.refs]at y;cases y
 |lp k j g h=>
   intro i y;rw[SV.refs]at y;obtain rfl:i=k:=by simpa using y
   exact⟨_,h⟩
 |ls k v h V=>
   intro i y;rw[SV.refs]at y;obtain rfl:i=k:=by simpa using y
   exact⟨_,h⟩
 |lv k sz a n b m c h=>
   intro i y;rw[SV.refs]at y;obtain rfl:i=k:=by simpa using y
   exact⟨_,h⟩
 |le k sz e j b m c h=>
   intro i y;rw[SV.refs]at y;obtain rfl:i=k:=by simpa using y
   exact⟨_,h⟩
 |lm k r h=>
   intro i y;rw[SV.refs]at y;obtain rfl:i=k:=by simpa using y
   exact⟨_,h⟩
 |lr k p e b n c t h Z=>
  intro i y;rw[SV.refs]at y;obtain rfl:i=k:=by simpa using y
  exact⟨_,h⟩
 |lo k p t v h Z V=>
  intro i y;rw[SV.refs]at y;obtain rfl:i=k:=by simpa using y
  exact⟨_,h⟩
 |agg G D I J z=>
  intro i y;rw[SV.refs]at y;obtain⟨j,c,h1,h2⟩:=r8 y;exact z j c D[j]! h1 (by rw[Array.getElem!_eq_getD,Array.getD_eq_getD_getElem?];have:=aC h1;rw[Array.getElem?_eq_getElem (by omega)];rfl) i h2
 |aJ G D I J z=>
  intro i y;rw[SV.refs]at y;obtain⟨j,c,h1,h2⟩:=r8 y;exact z j c D[j]! h1 (by rw[Array.getElem!_eq_getD,Array.getD_eq_getD_getElem?];have:=aC h1;rw[Array.getElem?_eq_getElem (by omega)];rfl) i h2
 |fn f G U D I J z=>
  intro i y;rw[SV.refs]at y;obtain⟨j,c,h1,h2⟩:=r8 y;exact z j c (U++D)[j]! h1 (by rw[Array.getElem!_eq_getD,Array.getD_eq_getD_getElem?];have:=aC h1;rw[Array.getElem?_eq_getElem (by omega)];rfl) i h2
 |aV x v h z=>intro i y;rw[SV.refs]at y;exact z i y
 |no=>intro i y;rw[SV.refs]at y;cases y
 |dead=>intro i y;rw[SV.refs]at y;cases y
mutual
theorem SV.xx{σ:Nat->Option Nat}:∀x:SV,(∀i∈x.refs,σ i=some i)->x.sub σ=x
 | .t x,_=>by rw[SV.sub]
 | .nil,_=>by rw[SV.sub]
 | .tc es,_=>by rw[SV.sub]
 | .nn es,_=>by rw[SV.sub]
 | .lp i j,h=>by rw[SV.sub,h i (by rw[SV.refs];simp)]
 | .ls i,h=>by rw[SV.sub,h i (by rw[SV.refs];simp)]
 | .lv i sz a n,h=>by rw[SV.sub,h i (by rw[SV.refs];simp)]
 | .le i sz k j,h=>by rw[SV.sub,h i (by rw[SV.refs];simp)]
 | .lm i,h=>by rw[SV.sub,h i (by rw[SV.refs];simp)]
 | .lo i p,h=>by rw[SV.sub,h i (by rw[SV.refs];simp)]
 | .lr i p k,h=>by rw[SV.sub,h i (by rw[SV.refs];simp)]
 | .agg v,h=>by rw[SV.sub,SV.pd v fun i u=>h i (by rw[SV.refs];exact u)]
 | .aJ v,h=>by rw[SV.sub,SV.pd v fun i u=>h i (by rw[SV.refs];exact u)]
 | .fn f y v,h=>by rw[SV.sub,SV.pd v fun i u=>h i (by rw[SV.refs];exact u)]
 | .aV s,h=>by rw[SV.sub,SV.xx s fun i u=>h i (by rw[SV.refs];exact u)]
 | .no,_=>by rw[SV.sub]
 | .dead,_=>by rw[SV.sub]
theorem SV.pd{σ:Nat->Option Nat}:∀cs:List SV,(∀i∈SV.iS cs,σ i=some i)->SV.cM σ cs=cs
 |[],_=>by rw[SV.cM]
 |c::cs,h=>by rw[SV.cM,SV.xx c fun i u=>h i (by rw[SV.iS];simp[u]),SV.pd cs fun i u=>h i (by rw[SV.iS];simp[u])]
end
def Cc{σ:Nat->Option Nat}(b:Lb)(h:∀i∈b.refs,σ i=some i):iX σ b b:=by
 cases b with
 |box v T u=>exact⟨id,rfl,(SV.pd u h).symm⟩
 |row=>exact⟨id,rfl,rfl⟩
 |map v ks y=>exact⟨id,rfl,(SV.pd y h).symm⟩
 |own=>exact⟨id,rfl⟩
def aw.inside{γ:Glob}{κ:Ctx}{fr:Fr}{L:Ls}{w:World}(J:aw γ κ fr L w){k:Nat}{D:Lb}(hk:fr[k]?=some D):∀i∈D.refs,i <fr.length:=by
 intro i z;have h:=J.blk k D hk
 cases D with
 |box ro T cs=>
  obtain⟨g,us,_,_,h3,h4⟩:=h;obtain⟨j,c,y,I⟩:=r8 z;have Z:=aC y;obtain⟨u,U⟩:=(h4 j c us[j] y (Array.getElem?_eq_getElem (by omega))).reach i I;exact J.lim _ _ U
 |row=>cases z
 |own=>cases z
 |map ro ks vs=>
  obtain⟨r,v,G,_,_,_,h4,_,I,_⟩:=h;obtain⟨j,c,y,V⟩:=r8 z;have Z:=aC y;obtain⟨u,U⟩:=(I j c v[j] y (Array.getElem?_eq_getElem (by omega))).reach i V;exact J.lim _ _ U
def H4{g:Cfg}{C:CallF}{env:Env}{fr fr':Fr}{T:Nat}{x:SV}{ks:List Nat}(h:cd g C env fr (.alloc T)=some (x,fr',ks)):∃G,x=.lp fr.length 0/\fr'=fr++[G]/\ks=[]/\∀(v:Env) (u:Fr),cd g C v u (.alloc T)=some (.lp u.length 0,u++[G],[]):=by
 have D:∀(env:Env) (fr:Fr),cd g C env fr (.alloc T)=match mi g.P T with|some z=>some (.lp fr.length 0,fr++[.box false T z],[])|none=>none:=fun env fr=>rfl
 rw[D]at h
 cases y:mi g.P T with
 |none=>rw[y]at h;cases h
 |some z=>
  rw[y]at h;cases h;exact⟨.box false T z,rfl,rfl,rfl,fun v u=>by rw[D,y]⟩
def QR{P:Program}{t i j:Nat}{v x:SV}{fr fr':Fr}{ks:List Nat}(h:iV P fr t (.lp i j) v=some (x,fr',ks)):∃G lb',fr[i]?=some G/\fr'=fr.set i lb'/\x=.dead/\ks=[]/\∀(u:Fr) (z:Nat),u[z]?=some G->iV P u t (.lp z j) v=some (.dead,u.set z lb',[]):=by
 unfold iV at h;split at h
 ·cases h
 ·rename_i e n J;split at h
  ·cases h
  ·rename_i y;simp only at h;split at h
   ·rename_i T U I;split at h
    ·rename_i D;cases h;refine⟨_,_,I,rfl,rfl,rfl,fun u z h2=>?_⟩;unfold iV;simp only[J,y,h2,D]
    ·cases h
   ·cases h
def J0{α:Type}{l:List α}{k:Nat}{x:α}(h:l[k]?=some x):l.drop k=x::l.drop (k+1):=by
 obtain⟨u,v⟩:=List.getElem?_eq_some_iff.1 h;rw[List.drop_eq_getElem_cons u,v]
def nQ:List Nat->Nat->Nat
 |[],_=>0
 |x::l,k=>if x=k then 0 else nQ l k+1
theorem Fp{k:Nat}:∀{l:List Nat},k∈l->l[nQ l k]?=some k
 |x::l,h=>by
  unfold nQ;split
  ·rename_i e;rw[e];rfl
  ·rename_i e;rw[List.getElem?_cons_succ];exact Fp ((List.mem_cons.1 h).resolve_left (Ne.symm e))
def K6{N n i:Nat}:bS ((List.range n).map (N+·)) i=true↔N<=i/\i <N+n:=by
 rw[ry,List.mem_map];constructor
 ·rintro⟨k,u,rfl⟩;have:=List.mem_range.1 u;omega
 ·rintro⟨h1,h2⟩;exact⟨i - N,List.mem_range.2 (by omega),by omega⟩
def cn(ops:Array Oper)(i:Nat):Nat:=match ops[i]? with
 |some o=>match o.dst with
  |some d=>d
  |none=>0
 |none=>0
structure mo (ops:Array Oper) (N m:Nat):Prop extends DrawB ops where
 size:ops.size=N+(m+m)
 pr:∀k,k <m->∃(oa os:Oper) (T S:Nat) (x:Operand),ops[N+k]?=some oa/\ops[N+m+k]?=some os/\oa.dst=some (cn ops (N+k))/\oa.op=.alloc T/\oa.guard=none/\os.dst=none/\os.op=.store S (.tmp (cn ops (N+k))) x/\os.guard=none/\dM os (N+k)=true/\x≠.tmp (cn ops (N+k))/\∀(j:Nat) (o:Oper),ops[j]?=some o->j≠N+m+k->.tmp (cn ops (N+k))∉o.op.operands
def JY{ops:Array Oper}{effs:List Nat}(h:vu ops effs=true):∃N m,effs=(List.range (m+m)).map (N+·)/\(∃r,effs=N::r)/\mo ops N m:=by
 unfold vu at h;split at h
 ·cases h
 ·rename_i N r;simp only[Bool.and_eq_true]at h;obtain⟨⟨⟨⟨h1,h2⟩,h3⟩,h4⟩,h5⟩:=h;generalize hm:(N::r).length/2=m at*
  have h3:(N::r).length=m+m:=by simpa using h3
  refine⟨N,m,by rw[h3]at h4;simpa using h4,⟨r,rfl⟩,{yT h1 with size:=by rw[h3]at h2;simpa using h2,pr:=fun k hk=>?_}⟩;have u:=List.all_eq_true.1 h5 k (List.mem_range.2 hk);unfold Hw at u;split at u
  ·rename_i oa os I hs;split at u
   ·rename_i d T S y x G h8 h9;simp only[Bool.and_eq_true]at u;obtain⟨⟨⟨⟨⟨⟨V,Z⟩,g3⟩,g4⟩,g5⟩,g6⟩,g7⟩:=u;have hd:y=d:=(Nat.eq_of_beq_eq_true V).symm;subst hd;have D:cn ops (N+k)=y:=by unfold cn;rw[I];simp only[G]
    rw[D];refine⟨oa,os,T,S,x,I,hs,G,h8,by simpa using Z,by simpa using g4,h9,by simpa using g3,g5,fun e=>?_,fun j o J hj v=>?_⟩
    ·subst e;simp at g6
    ·have z:=List.all_eq_true.1 g7 j (List.mem_range.2 (Array.getElem?_eq_some_iff.1 J).1);rw[J]at z;have U:Nat.beq j (N+m+k)=false:=by rw[<- Bool.not_eq_true,Nat.beq_eq];exact hj
     simp only[U,Bool.false_or,Bool.not_eq_true']at z
     exact fP.1 z (by
      unfold tmpsOf;rw[List.mem_filterMap];exact⟨.tmp y,Array.mem_toList_iff.2 v,rfl⟩)
   ·cases u
  ·cases u
section
variable {g:Cfg} {γ:Glob} {κ:Ctx} {C:CallF} {ops:Array Oper} {effs:List Nat} {n N m:Nat} {E:Nat->Env} {F:Nat->Fr}
def Al(g:Cfg)(C:CallF)(ops:Array Oper)(i:Nat)(u:Lb):Prop:=∀o,ops[i]?=some o->∀(env:Env) (fr:Fr),cd g C env fr o.op=some (.lp fr.length 0,fr++[u],[])
def St(g:Cfg)(C:CallF)(ops:Array Oper)(E:Nat->Env)(i:Nat)(u v:Lb):Prop:=∀(o:Oper) (S d:Nat) (x:Operand),ops[i]?=some o->o.op=.store S (.tmp d) x->∀(env:Env) (fr:Fr) (j:Nat),rd env (.tmp d)=.lp j 0->rd env x=rd (E i) x->fr[j]?=some u->cd g C env fr o.op=some (.dead,fr.set j v,[])
def G4{i:Nat}{o:Oper}{e u:Env}{f v:Fr}(h:mr g C effs ops i o e f u v)(hi:bS effs i=true)(hg:o.guard=none):∃x,cd g C e f o.op=some (x,v,[])/\u=aH e o.dst x:=by
 obtain⟨_,h⟩:=h;rw[hg]at h;obtain⟨x,h1,h2⟩:=h;unfold step at h1;simp only[hi]at h1;exact⟨x,h1,h2⟩
def mo.JT(H:mo ops N m){j k:Nat}(hj:j <m)(hk:k <m)(h:cn ops (N+j)=cn ops (N+k)):j=k:=by
 obtain⟨z,_,_,_,_,u,_,a2,_⟩:=H.pr j hj;obtain⟨D,_,_,_,_,v,_,y,_⟩:=H.pr k hk;by_cases e:N+k=N+j
 ·omega
 ·exact absurd (h ▸ a2) (H.dst (N+j) z (N+k) D _ u v e y)
theorem Hq(H:mo ops N m)(z:jx g C ops effs E F)(u:∀i,bS effs i=true↔N<=i/\i <N+(m+m)):∀k,k<=m->∃B:List Lb,B.length=k/\F (N+k)=F 0++B/\∀(q:Nat) (y:Lb),B[q]?=some y->Al g C ops (N+q) y/\E (N+q+1) (cn ops (N+q))=.lp ((F 0).length+q) 0
 |0,_=>⟨[],rfl,by
   have:=uS z 0 (N+0) (Nat.zero_le _) (by rw[H.size];omega) fun i _ hi he=>by
    have:=(u i).1 (ry.2 he);omega
   rw[this];simp,fun q y h=>by simp at h⟩
 |k+1,hk=>by
  obtain⟨B,h1,h2,h3⟩:=Hq H z u k (by omega);obtain⟨oa,_,T,_,_,I,_,a2,a3,a4,_⟩:=H.pr k (by omega);obtain⟨x,J,V⟩:=G4 (z (N+k) oa I) ((u (N+k)).2 ⟨by omega,by omega⟩) a4;rw[a3]at J;obtain⟨y,rfl,Z,_,c4⟩:=H4 J;refine⟨B++[y],by simp[h1],by rw[show N+(k+1)=N+k+1 by omega,Z,h2,List.append_assoc],fun q G v=>?_⟩;rcases Nat.lt_or_ge q k with ad|ab
  ·rw[List.getElem?_append_left (by omega)]at v;exact h3 q G v
  ·have D:=aC v;obtain rfl:q=k:=by simp at D;omega
   rw[List.getElem?_append_right (by omega),h1,Nat.sub_self]at v;cases v;refine⟨fun o U env fr=>?_,?_⟩
   ·rw[I]at U;cases U;rw[a3];exact c4 env fr
   ·rw[V,a2,h2];show c9 _ _ _ _=_
    rw[iA];simp[h1]
theorem Hr(H:mo ops N m)(Z:jx g C ops effs E F)(J:∀i,bS effs i=true↔N<=i/\i <N+(m+m)){B0:List Lb}(hB:B0.length=m)(hF:F (N+m)=F 0++B0)(hD:∀(q:Nat) (lb:Lb),B0[q]?=some lb->E (N+q+1) (cn ops (N+q))=.lp ((F 0).length+q) 0):
  ∀k,k<=m->∃B1:List Lb,B1.length=k/\F (N+m+k)=F 0++(B1++B0.drop k)/\∀(q:Nat) (v D:Lb),B0[q]?=some v->B1[q]?=some D->St g C ops E (N+m+q) v D
 |0,_=>⟨[],rfl,by rw[Nat.add_zero,hF];simp,fun q v D _ h=>by simp at h⟩
 |k+1,hk=>by
  obtain⟨B1,h1,h2,h3⟩:=Hr H Z J hB hF hD k (by omega);obtain⟨oa,os,T,S,x,a1,s1,a2,a3,a4,s2,s3,s4,s5,s6,s7⟩:=H.pr k (by omega);obtain⟨y,I,b2⟩:=G4 (Z (N+m+k) os s1) ((J (N+m+k)).2 ⟨by omega,by omega⟩) s4;obtain⟨v,u⟩:=aj (xs:=B0) (k:=k) (by omega)
  have ag:rd (E (N+m+k)) (.tmp (cn ops (N+k)))=.lp ((F 0).length+k) 0:=by
   have e1:E (N+m+k) (cn ops (N+k))=.lp ((F 0).length+k) 0:=by
    rw[po Z (cn ops (N+k)) (N+k+1) (N+m+k) (by omega) (by rw[H.size];omega) fun j o hj _ V hd=>H.dst j o (N+k) oa _ V a1 (by omega) a2 hd];exact hD k v u
   show un (E (N+m+k) (cn ops (N+k)))=_
   rw[e1];rfl
  rw[s3]at I;have I:iV g.P (F (N+m+k)) S (rd (E (N+m+k)) (.tmp (cn ops (N+k)))) (rd (E (N+m+k)) x)=some (y,F (N+m+k+1),[]):=I;rw[ag]at I;obtain⟨lb,D,c1,c2,rfl,_,c3⟩:=QR I
  have ab:(F (N+m+k))[(F 0).length+k]?=B0[k]?:=by
   rw[h2,List.getElem?_append_right (by omega),List.getElem?_append_right (by omega),List.getElem?_drop];congr 1;omega
  rw[ab,u]at c1;cases c1;refine⟨B1++[D],by simp[h1],?_,fun q l0 l1 G z=>?_⟩
  ·rw[show N+m+(k+1)=N+m+k+1 by omega,c2,h2];have hd:B0.drop k=v::B0.drop (k+1):=J0 u;rw[hd,List.set_append_right _ _ (by omega),List.set_append_right _ _ (by omega),List.append_assoc];congr 2;rw[show(F 0).length+k - (F 0).length - B1.length=0 by omega];rfl
  ·rcases Nat.lt_or_ge q k with al|ai
   ·rw[List.getElem?_append_left (by omega)]at z;exact h3 q l0 l1 G z
   ·have ad:=aC z;obtain rfl:q=k:=by simp at ad;omega
    rw[List.getElem?_append_right (by omega),h1,Nat.sub_self]at z;cases z;rw[u]at G;cases G;intro o S' d' x' V U env fr j r1 r2 r3;rw[s1]at V;cases V;rw[s3]at U;cases U;rw[s3];show iV g.P fr S (rd env (.tmp (cn ops (N+q)))) (rd env x)=_
    rw[r1,r2];exact c3 fr j r3
def gB(B:List Lb)(k:Nat):Lb:=(B[k]?).getD (.box true 0 [])
def kj(N m:Nat)(B0 B1:List Lb)(listed:Array Bool)(k:Nat):Lb:=match listed.getD (N+m+k) true with
 |true=>gB B1 k
 |false=>gB B0 k
def Gf(fr0:Fr)(N m:Nat)(B0 B1:List Lb)(listed:Array Bool)(pend:List Nat):Fr:=fr0++pend.map (kj N m B0 B1 listed)
structure li (γ:Glob) (κ:Ctx) (ops:Array Oper) (N m n:Nat) (E:Nat->Env) (fr0:Fr) (B0 B1:List Lb) (pend:List Nat) (L:Ls) (listed:Array Bool) (a:Act) (w:World):Prop where
 hd:Marks κ w a.defers
 hn:a.tmps.size=n
 hs:listed.size=ops.size
 nd:pend.Nodup
 mem:∀k,k∈pend↔k <m/\listed.getD (N+k) true=true
 bw:aw γ κ (Gf fr0 N m B0 B1 listed pend) L w
 ptr:∀p k,pend[p]?=some k->SR (MA κ.M (Gf fr0 N m B0 B1 listed pend) L) L w (.lp (fr0.length+p) 0) (a.tmps.getD (cn ops (N+k)) undef)
 done:∀(i:Nat) (o:Oper) (t:Nat),i <N->ops[i]?=some o->o.dst=some t->listed.getD i true=true->SR (MA κ.M (Gf fr0 N m B0 B1 listed pend) L) L w (E (i+1) t) (a.tmps.getD t undef)
 rest:∀(t:Nat),(∀k,k <m->t≠cn ops (N+k))->(∀(i:Nat) (o:Oper),i <N->ops[i]?=some o->o.dst=some t->listed.getD i true=false)->SR (MA κ.M (Gf fr0 N m B0 B1 listed pend) L) L w (E 0 t) (a.tmps.getD t undef)
 dm:∀(k:Nat) (o:Oper),ops[k]?=some o->listed.getD k true=true->∀e∈o.after,Region.binds .any e=true->listed.getD e.on false=true
variable {fr0:Fr} {B0 B1:List Lb} {pend:List Nat} {L:Ls} {listed:Array Bool} {a:Act} {w:World}
def li.start(H:mo ops N m)(hd:Marks κ w a.defers)(hn:a.tmps.size=n)(z:aw γ κ fr0 L w)(D:∀t,SR (MA κ.M fr0 L) L w (E 0 t) (a.tmps.getD t undef)):li γ κ ops N m n E fr0 B0 B1 [] L (Array.replicate ops.size false) a w where
 hd:=hd
 hn:=hn
 hs:=by simp
 nd:=List.nodup_nil
 mem:=fun k=>by
  constructor
  ·intro h;cases h
  ·rintro⟨v,h⟩;rw[Array.getD_eq_getD_getElem?,Array.getElem?_replicate,if_pos (by rw[H.size];omega)]at h;cases h
 bw:=by unfold Gf;simpa using z
 ptr:=fun p k h=>by simp at h
 done:=fun k o t _ y _ u=>by
  have v:=(Array.getElem?_eq_some_iff.1 y).1;rw[Array.getD_eq_getD_getElem?,Array.getElem?_replicate,if_pos v]at u;cases u
 rest:=fun t _ _=>by unfold Gf;simpa using D t
 dm:=fun k o y u=>by
  have v:=(Array.getElem?_eq_some_iff.1 y).1;rw[Array.getD_eq_getD_getElem?,Array.getElem?_replicate,if_pos v]at u;cases u
def li.jy(h:li γ κ ops N m n E fr0 B0 B1 pend L listed a w){i k:Nat}(ha:gM ops i k):(∀(o:Oper),ops[i]?=some o->∀e∈o.after,Region.binds .any e=true->listed.getD e.on false=true)->listed.getD k true=true:=by
 induction ha with
 |one i o e z v u=>intro y;exact gA (y o z e v u)
 |more i k o e z v u ha G=>
  intro y;have h1:=gA (y o z e v u);exact G fun I D=>h.dm e.on I D h1
def HI(H:mo ops N m){t:Nat}(ht:∀k,k <m->t≠cn ops (N+k)){i:Nat}{o:Oper}(ho:ops[i]?=some o)(hd:o.dst=some t):i <N:=by
 rcases Nat.lt_or_ge i N with h|h
 ·exact h
 ·have z:=(Array.getElem?_eq_some_iff.1 ho).1;rw[H.size]at z;rcases Nat.lt_or_ge i (N+m)with h1|h1
  ·obtain⟨D,_,_,_,_,u,_,a2,_⟩:=H.pr (i - N) (by omega);rw[show N+(i - N)=i by omega,ho]at u;cases u;rw[show N+(i - N)=i by omega]at a2;rw[hd]at a2;cases a2;exact absurd (show cn ops i=cn ops (N+(i - N)) by rw[show N+(i - N)=i by omega]) (ht (i - N) (by omega))
  ·obtain⟨_,G,_,_,_,_,v,_,_,_,y,_⟩:=H.pr (i - N - m) (by omega);rw[show N+m+(i - N - m)=i by omega,ho]at v;cases v;rw[hd]at y;cases y
def li.slot(H:mo ops N m)(I:jx g C ops effs E F)(h:li γ κ ops N m n E fr0 B0 B1 pend L listed a w){i t:Nat}(ht:∀k,k <m->t≠cn ops (N+k))(hi:i<=ops.size)
  (h1:∀(k:Nat) (ok:Oper),ops[k]?=some ok->ok.dst=some t->listed.getD k true=true->k <i)(h2:∀(k:Nat) (ok:Oper),ops[k]?=some ok->ok.dst=some t->listed.getD k true=false->i<=k):SR (MA κ.M (Gf fr0 N m B0 B1 listed pend) L) L w (E i t) (a.tmps.getD t undef):=by
 by_cases v:∃(k:Nat) (ok:Oper),ops[k]?=some ok/\ok.dst=some t/\listed.getD k true=true
 ·obtain⟨k,ok,u,hd,z⟩:=v;have D:=h1 k ok u hd z;rw[po I t (k+1) i (by omega) hi fun q om J U G=>H.dst q om k ok t G u (by omega) hd];exact h.done k ok t (HI H ht u hd) u hd z
 ·have y:∀(k:Nat) (o:Oper),ops[k]?=some o->o.dst=some t->listed.getD k true=false:=fun k o u hd=>by
   rw[<- Bool.not_eq_true];exact fun z=>v ⟨k,o,u,hd,z⟩
  rw[po I t 0 i (Nat.zero_le _) hi fun k o _ D u hd=>by have:=h2 k o u hd (y k o u hd);omega];exact h.rest t ht fun i o _ u hd=>y i o u hd
def yk:(Gf fr0 N m B0 B1 listed pend).length=fr0.length+pend.length:=by unfold Gf;simp
def qR{i:Nat}(hi:i <fr0.length):(Gf fr0 N m B0 B1 listed pend)[i]?=fr0[i]?:=by unfold Gf;rw[List.getElem?_append_left hi]
def sH{p:Nat}:(Gf fr0 N m B0 B1 listed pend)[fr0.length+p]?=(pend[p]?).map (kj N m B0 B1 listed):=by
 unfold Gf;rw[List.getElem?_append_right (by omega),show fr0.length+p - fr0.length=p by omega,List.getElem?_map]
def li.fin(H:mo ops N m)(hE:jx g C ops effs E F)(h:li γ κ ops N m n E fr0 B0 B1 pend L listed a w)(V:∀k,k <ops.size->listed.getD k true=true)(au:B1.length=m)(hF:F ops.size=fr0++B1)(hD:∀q,q <m->E ops.size (cn ops (N+q))=.lp (fr0.length+q) 0)
  (aB:∀b∈B1,yC b=true)(aG:∀(i:Nat) (o:Oper) (t:Nat),i <N->ops[i]?=some o->o.dst=some t->∀r∈(E ops.size t).refs,r <fr0.length)(h0:∀t,∀r∈(E 0 t).refs,r <fr0.length)(hfr:∀b∈fr0,∀r∈b.refs,r <fr0.length)(hκ:∀j v,κ.L j=some v->j <fr0.length):
  ∃L',aw γ κ (F ops.size) L' w/\∀t,SR (MA κ.M (F ops.size) L') L' w (E ops.size t) (a.tmps.getD t undef):=by
 have ag:∀k,k∈pend↔k <m:=fun k=>by
  rw[h.mem k];exact⟨fun q=>q.1,fun q=>⟨q,V _ (by rw[H.size];omega)⟩⟩
 have aD:∀k,k <m->∃b,B1[k]?=some b/\kj N m B0 B1 listed k=b:=fun k u=>by
  obtain⟨b,hb⟩:=aj (xs:=B1) (k:=k) (by omega);refine⟨b,hb,?_⟩;unfold kj;rw[V _ (by rw[H.size];omega)];show gB B1 k=b
  unfold gB;rw[hb];rfl
 have I:∀k,k <m->pend[nQ pend k]?=some k:=fun k u=>Fp ((ag k).2 u);have ao:∀p k,pend[p]?=some k->nQ pend k=p:=fun p k hp=>wI h.nd (I k ((ag k).1 (List.mem_of_getElem? hp))) hp;have Z:(fr0++B1).length=fr0.length+m:=by simp[au]
 let σ:Nat->Option Nat:=fun i=>if i <fr0.length then some i else(pend[i - fr0.length]?).map (fr0.length+·)
 let π:Nat->Nat:=fun j=>if j <fr0.length then j else fr0.length+nQ pend (j - fr0.length)
 have ai:∀i,i <fr0.length->σ i=some i:=fun i y=>if_pos y
 have aq:∀p k,pend[p]?=some k->σ (fr0.length+p)=some (fr0.length+k):=fun p k hp=>by
  show(if _ then _ else _)=_
  rw[if_neg (by omega),show fr0.length+p - fr0.length=p by omega,hp];rfl
 have D:∀i,i <fr0.length->π i=i:=fun i y=>if_pos y
 have J:∀k,π (fr0.length+k)=fr0.length+nQ pend k:=fun k=>by
  show(if _ then _ else _)=_
  rw[if_neg (by omega),show fr0.length+k - fr0.length=k by omega]
 have split:∀j,j <(fr0++B1).length->j <fr0.length\/∃k,k <m/\j=fr0.length+k:=fun j G=>by
  rw[Z]at G;rcases Nat.lt_or_ge j fr0.length with h1|h1
  ·exact .inl h1
  ·exact .inr ⟨j - fr0.length,by omega,by omega⟩
 obtain⟨r1,r2,r3⟩:=h.bw.uk (fr0++B1) π σ (fun j k G u e=>by
   rcases split j G with h1|⟨p,hp,rfl⟩<;>rcases split k u with h2|⟨q,hq,rfl⟩
   ·rw[D j h1,D k h2]at e;exact e
   ·rw[D j h1,J q]at e;omega
   ·rw[D k h2,J p]at e;omega
   ·rw[J p,J q]at e;have U:=I p hp;have e2:=I q hq;rw[show nQ pend p=nQ pend q by omega,e2]at U;cases U;rfl) (fun i j v y hv=>by
   have aJ:=h.bw.lim i v hv;rw[yk]at aJ;rcases Nat.lt_or_ge i fr0.length with h1|h1
   ·rw[ai i h1]at y;cases y;exact⟨by rw[Z];omega,D i h1⟩
   ·obtain⟨p,rfl⟩:∃p,i=fr0.length+p:=⟨i - fr0.length,by omega⟩;obtain⟨k,u⟩:=aj (xs:=pend) (k:=p) (by omega);rw[aq p k u]at y;cases y;have aR:=(ag k).1 (List.mem_of_getElem? u);exact⟨by rw[Z];omega,by rw[J,ao p k u]⟩) (fun j z G=>by
   rcases split j (aC G)with h1|⟨k,u,rfl⟩
   ·rw[List.getElem?_append_left h1]at G;rw[D j h1];exact⟨z,by rw[qR h1];exact G,Cc z fun i y=>ai i (hfr z (List.mem_of_getElem? G) i y)⟩
   ·rw[List.getElem?_append_right (by omega),show fr0.length+k - fr0.length=k by omega]at G;obtain⟨b,al,av⟩:=aD k u;rw[al]at G;cases G;rw[J];refine⟨z,by rw[sH,I k u,Option.map_some,av],Cc z fun i y=>?_⟩;have ad:=aB z (List.mem_of_getElem? al)
    cases z with
    |box ro T cs=>
     have y:i∈SV.iS cs:=y;obtain⟨q,c,hq,hc⟩:=r8 y;have h5:=List.all_eq_true.1 ad c (List.mem_of_getElem? hq);cases c <;>first|(cases h5;done)|(rw[SV.refs]at hc;cases hc)
    |row=>cases y
    |own=>cases y
    |map=>cases ad) (fun j v G=>by
   have ab:=hκ j v G;obtain⟨lb,U,_⟩:=h.bw.hand j v G;rw[qR ab]at U;exact⟨lb,lb,by rw[qR ab];exact U,by rw[List.getElem?_append_left ab];exact U,D j ab,id⟩)
 rw[hF];refine⟨_,r1,fun t=>?_⟩;have conv:∀{x:SV} {v:Value},SR (MA κ.M (Gf fr0 N m B0 B1 listed pend) L) L w x v->SR (MA κ.M (fr0++B1) (iZ (fr0++B1).length L π)) (iZ (fr0++B1).length L π) w (x.sub σ) v:=fun hx=>SR.sub σ (Nat.le_refl _) (fun b _ hb=>⟨r2 b hb,rfl⟩) r3 hx
 by_cases an:∃k,k <m/\t=cn ops (N+k)
 ·obtain⟨k,u,rfl⟩:=an;have U:=conv (h.ptr _ k (I k u))
  rw[hD k u];rw[SV.sub,aq _ k (I k u)]at U;exact U
 ·have ht:∀k,k <m->t≠cn ops (N+k):=fun k u e=>an ⟨k,u,e⟩
  have U:=h.slot H hE (i:=ops.size) ht (Nat.le_refl _) (fun k ok u _ _=>(Array.getElem?_eq_some_iff.1 u).1) (fun k ok u _ hl=>by
   have:=V k (Array.getElem?_eq_some_iff.1 u).1;rw[hl]at this;cases this)
  have e2:=conv U
  rw[SV.xx _ fun i y=>ai i ?_]at e2
  ·exact e2
  ·by_cases hw:∃(i:Nat) (o:Oper),i <N/\ops[i]?=some o/\o.dst=some t
   ·obtain⟨q,o,h1,h2,h3⟩:=hw;exact aG q o t h1 h2 h3 i y
   ·rw[po hE t 0 ops.size (Nat.zero_le _) (Nat.le_refl _) fun k o _ _ u hd=>hw ⟨k,o,HI H ht u hd,u,hd⟩]at y;exact h0 t i y
def HM{u:Array Bool}(h:∀k∈pend,u.getD (N+m+k) true=listed.getD (N+m+k) true):Gf fr0 N m B0 B1 u pend=Gf fr0 N m B0 B1 listed pend:=by
 unfold Gf;congr 1;refine List.map_congr_left fun k v=>?_;unfold kj;rw[h k v]
def HN{u:Array Bool}{p k:Nat}{b:Lb}(hn:pend.Nodup)(hp:pend[p]?=some k)(hb:kj N m B0 B1 u k=b)(h:∀q∈pend,q≠k->u.getD (N+m+q) true=listed.getD (N+m+q) true):Gf fr0 N m B0 B1 u pend=(Gf fr0 N m B0 B1 listed pend).set (fr0.length+p) b:=by
 have G:=aC hp;refine List.ext_getElem? fun j=>?_;rcases Nat.lt_or_ge j fr0.length with h1|h1
 ·rw[List.getElem?_set_ne (by omega),qR h1,qR h1]
 ·obtain⟨q,rfl⟩:∃q,j=fr0.length+q:=⟨j - fr0.length,by omega⟩;by_cases e:q=p
  ·subst e;rw[List.getElem?_set_self (by rw[yk];omega),sH,hp,Option.map_some,hb]
  ·rw[List.getElem?_set_ne (by omega),sH,sH]
   cases y:pend[q]? with
   |none=>rfl
   |some z=>
    have v:z≠k:=fun D=>by subst D;exact e (wI hn y hp)
    simp only[Option.map_some];unfold kj;rw[h z (List.mem_of_getElem? y) v]
def RU{dj:Option Nat}{dn:Nat}(hS:eK g.P γ C)(H:mo ops N m)(bi:∀i,bS effs i=true↔N<=i/\i <N+(m+m))(ch:iI n ops.toList=true)(hE:jx g C ops effs E F)(cc:∀i,i<=N->F i=fr0)
  (e7:B0.length=m)(eb:∀(q:Nat) (lb:Lb),B0[q]?=some lb->Al g C ops (N+q) lb)(fa:B1.length=m)(ef:∀(q:Nat) (Z a6:Lb),B0[q]?=some Z->B1[q]?=some a6->St g C ops E (N+m+q) Z a6){Q:Exit->Act->World->Prop}
  (hK:∀pend L listed a w,(∀k,k <ops.size->listed.getD k true=true)->li γ κ ops N m n E fr0 B0 B1 pend L listed a w->Q .normal a w):
  ∀(J:Nat) (pend:List Nat) (L:Ls) (listed:Array Bool) (a:Act) (w:World),eW listed ops.size<=J->li γ κ ops N m n E fr0 B0 B1 pend L listed a w->wpAnyIn (Fw dj) dn g.P .any ops Q J listed a w:=by
 have aq:∀(i:Nat) (o:Oper),ops[i]?=some o->∀d,o.dst=some d->d <n:=fun i o G d hd=>jD ch (Array.mem_toList_iff.2 (Array.mem_of_getElem? G)) hd;intro J
 induction J with
 |zero=>
  intro pend L listed a w hu h;have bz:=sB (listed:=listed) ops.size (by omega);refine⟨?_,hK pend L listed a w bz h⟩
  cases hr:Region.ready .any ops listed with
  |nil=>rfl
  |cons i l=>
   have hm:i∈Region.ready .any ops listed:=by rw[hr];simp
   obtain⟨hl,o,G,_⟩:=mem_ready.1 hm;have:=bz i (Array.getElem?_eq_some_iff.1 G).1;rw[hl]at this;cases this
 |succ J ih=>
  intro pend L listed a w hu h;refine⟨fun hr=>hK pend L listed a w (u2 H.toDrawB h.hs hr) h,fun i hi=>?_⟩;obtain⟨hl,o,G,au⟩:=mem_ready.1 hi;have bT:=(Array.getElem?_eq_some_iff.1 G).1;have e0:=hE i o G
  have b4:eW (listed.setIfInBounds i true) ops.size<=J:=by
   have:=qL hl ops.size;rw[if_pos bT]at this;omega
  have dr:∀k,gM ops i k->listed.getD k true=true:=fun k ha=>h.jy ha fun o' bm=>by rw[G]at bm;cases bm;exact au
  have ab:∀k,dM o k=true->listed.getD k true=true/\k <i:=fun k D=>by
   obtain⟨e,he,hb,rfl⟩:=jg D;exact⟨gA (au e he hb),H.back i o G e he hb⟩
  have aD:∀t,(∀k,k <m->t≠cn ops (N+k))->(.tmp t∈o.op.operands\/∃j oj,ops[j]?=some oj/\oj.dst=some t/\dM o j=true)->SR (MA κ.M (Gf fr0 N m B0 B1 listed pend) L) L w (E i t) (a.tmps.getD t undef):=fun t al ht=>by
   refine h.slot H hE al (by omega) (fun k ok D hd I=>?_) (fun k ok D hd I=>?_)
   ·have V:k≠i:=fun e=>by subst e;rw[hl]at I;cases I
    rcases ht with hy|⟨j,oj,ad,ag,aX⟩
    ·rcases H.use i o k ok t G D V hd hy with h1|h1
     ·exact(ab k h1).2
     ·obtain⟨e,he,hb,rfl⟩:=jg h1;have:=gA (h.dm k ok D I e he hb);rw[hl]at this;cases this
    ·by_cases a8:k=j
     ·subst a8;exact(ab k aX).2
     ·exact absurd ag (H.dst k ok j oj t D ad (Ne.symm a8) ag |>fun q=>absurd hd q)
   ·rcases Nat.lt_or_ge k i with cL|eo
    ·rcases ht with hy|⟨j,oj,ad,ag,aX⟩
     ·rcases H.use i o k ok t G D (by omega) hd hy with h1|h1
      ·have:=(ab k h1).1;rw[I]at this;cases this
      ·obtain⟨e,he,hb,rfl⟩:=jg h1;have:=H.back k ok D e he hb;omega
     ·by_cases a8:k=j
      ·subst a8;have:=(ab k aX).1;rw[I]at this;cases this
      ·exact absurd hd (H.dst k ok j oj t D ad (Ne.symm a8) ag)
    ·exact eo
  have z:∀j,j≠i->(listed.setIfInBounds i true).getD j true=listed.getD j true:=fun j hj=>getD_set_ne true (Ne.symm hj);have aR:(listed.setIfInBounds i true).getD i true=true:=by rw[Array.getD_eq_getD_getElem?,Array.getElem?_setIfInBounds_self_of_lt (by rw[h.hs];exact bT)];rfl
  have an:∀(k:Nat) (o:Oper),ops[k]?=some o->(listed.setIfInBounds i true).getD k true=true->∀e∈o.after,Region.binds .any e=true->(listed.setIfInBounds i true).getD e.on false=true:=fun k ok D I e he cg=>by
   by_cases V:k=i
   ·subst V;rw[G]at D;cases D;exact getD_set_true (au e he cg)
   ·rw[z k V]at I;exact getD_set_true (h.dm k ok D I e he cg)
  rcases Nat.lt_or_ge i N with cp|cp
  ·-- an operation ahead of the new variables
   have ct:bS effs i=false:=by rw[<- Bool.not_eq_true,bi];omega
   have eE:∀t,.tmp t∈o.op.operands->∀k,k <m->t≠cn ops (N+k):=fun t ht k D e=>by
    obtain⟨_,_,_,_,_,_,_,_,_,_,_,_,_,_,_,hx⟩:=H.pr k D;exact hx i o G (by omega) (e ▸ ht)
   have cQ:∀y∈o.op.operands,SR (MA κ.M (Gf fr0 N m B0 B1 listed pend) L) L w (dE (E i) y) (a.eval y):=fun y hy=>by
    cases y with
    |const v=>exact kz v
    |global g=>exact .dead _
    |func f=>exact .t _ _ (.fn _ [] #[] #[] rfl (fun j x u hx _=>by simp at hx))
    |tmp t=>exact aD t (eE t hy) (.inl hy)
   have ec:F i=fr0:=cc i (by omega);have cf:F (i+1)=fr0:=cc (i+1) (by omega)
   have aJ:∀{x},step g C (some effs) i (E i) (F i) o.op=some (x,F (i+1),[])->step g C (some effs) i (E i) (Gf fr0 N m B0 B1 listed pend) o.op=some (x,Gf fr0 N m B0 B1 listed pend,[]):=fun{x} hx=>by
    rw[ec,cf]at hx
    cases c0:pend with
    |nil=>unfold Gf;simpa using hx
    |cons k0 pr=>
     rw[<- c0];have ew:k0∈pend:=by rw[c0];simp
     obtain⟨cI,cA⟩:=(h.mem k0).1 ew;obtain⟨oa,_,_,_,_,a1,_⟩:=H.pr k0 cI
     have hb:((Region.before ops).getD (N+k0) 0).testBit i=false:=by
      rw[<- Bool.not_eq_true];intro hb;have:=h.jy (ns hb) fun o' bm=>h.dm (N+k0) o' bm cA;rw[hl]at this;cases this
     have hf:=List.all_eq_true.1 (hE (N+k0) oa a1).1 i (List.mem_range.2 (by omega));unfold vR at hf;simp only[a1,G,ct,(bi (N+k0)).2 ⟨by omega,by omega⟩,hb,Bool.false_or,Bool.and_eq_true]at hf;obtain⟨wl,rl,e1,e2,e3⟩:=yQ hf.2;rw[AD (Kj hE (by omega) (by rw[H.size];omega) hf.1)]at e2;have b3:=e2;unfold step at hx⊢;simp only[ct]at hx⊢
     cases cM:mI o.op with
     |true=>exact zH cM b3 hx
     |false=>
      unfold ig at hx⊢;simp only[cM]at hx⊢;obtain⟨bf,_,_⟩:=uM hx;have cL:=AF b3 bf;rw[<- AG (fr:=fr0) b3 fun b hb=>(qR (cL b hb)).symm,bf];rfl
   have next:∀(v:Value) (w':World) (L':Ls) (x:SV),Tr κ.M (Gf fr0 N m B0 B1 listed pend) L w (Gf fr0 N m B0 B1 listed pend) L' w' []->aw γ κ (Gf fr0 N m B0 B1 listed pend) L' w'->SR (MA κ.M (Gf fr0 N m B0 B1 listed pend) L') L' w' x v->E (i+1)=aH (E i) o.dst x->wpAnyIn (Fw dj) dn g.P .any ops Q J (listed.setIfInBounds i true) (a.put o.dst v) w':=fun v w' L' x hT U hv ao=>by
    have hG:Gf fr0 N m B0 B1 (listed.setIfInBounds i true) pend=Gf fr0 N m B0 B1 listed pend:=HM fun k _=>z _ (by omega)
    have eL:∀k,k <m->o.dst≠some (cn ops (N+k)):=fun k D e=>by
     obtain⟨oa,_,_,_,_,a1,_,a2,_⟩:=H.pr k D;exact H.dst i o (N+k) oa _ G a1 (by omega) a2 e
    refine ih pend L' _ _ _ b4 ⟨?_,?_,?_,h.nd,fun k=>?_,by rw[hG];exact U,fun p k hp=>?_,fun k ok t b1 D hd I=>?_,fun t al ht=>?_,an⟩
    ·rw[put_defers];exact h.hd.tr h.bw hT
    ·rw[bY,h.hn]
    ·rw[Array.size_setIfInBounds];exact h.hs
    ·rw[h.mem k];constructor
     ·rintro⟨q1,q2⟩;exact⟨q1,by rw[z _ (by omega)];exact q2⟩
     ·rintro⟨q1,q2⟩;exact⟨q1,by rw[z _ (by omega)]at q2;exact q2⟩
    ·rw[hG,ce (eL k ((h.mem k).1 (List.mem_of_getElem? hp)).1)];exact hT.sr (h.ptr p k hp)
    ·rw[hG];by_cases V:k=i
     ·subst V;rw[G]at D;cases D;rw[ao,hd,fE (by rw[h.hn];exact aq k o G t hd)];show SR _ _ _ (c9 _ t x t) v
      rw[iA];exact hv
     ·rw[ce (H.dst i o k ok t G D V hd)];rw[z k V]at I;exact hT.sr (h.done k ok t b1 D hd I)
    ·rw[hG]
     have cl:o.dst≠some t:=fun hd=>by
      have:=ht i o cp G hd;rw[aR]at this;cases this
     rw[ce cl];refine hT.sr (h.rest t al fun k ok b1 D hd=>?_);have V:k≠i:=fun e=>by subst e;rw[G]at D;cases D;exact cl hd
     have:=ht k ok b1 D hd;rw[z k V]at this;exact this
   have h2:=e0.2;unfold wpOpIn;simp only[G]
   cases hg:o.guard with
   |none=>
    rw[hg]at h2;obtain⟨x,be,ao⟩:=h2;rw[if_pos (by simp[Region.wanted,hg])];exact(iv hS (aJ be) κ L a w h.bw cQ).wpIn fun v w' ⟨L',hT,U,hv⟩=>next v w' L' x hT U hv ao
   |some gj=>
    obtain⟨j,b0⟩:=gj;rw[hg]at h2;have aX:=H.guard i o j b0 G hg;have fi:=(ab j aX).2
    have df:∀W,cP ops (E i) j b0=some W->Region.wanted o (yielded ops a.tmps)=W:=fun W hW=>pm (A:=MA κ.M (Gf fr0 N m B0 B1 listed pend) L) (L:=L) (w:=w) hg hW fun d bh=>by
     cases ad:ops[j]? with
     |none=>rw[ad]at bh;cases bh
     |some oj=>
      rw[ad]at bh;have ag:oj.dst=some d:=bh;refine⟨aD d (fun k D e=>?_) (.inr ⟨j,oj,ad,ag,aX⟩),by rw[h.hn];exact aq j oj ad d ag⟩;obtain⟨oa,_,_,_,_,a1,_,a2,_⟩:=H.pr k D;exact H.dst (N+k) oa j oj d a1 ad (by omega) ag (e ▸ a2)
    rcases h2 with⟨hW,x,be,ao⟩|⟨hW,e6,ao⟩
    ·rw[df _ hW,if_pos rfl];exact(iv hS (aJ be) κ L a w h.bw cQ).wpIn fun v w' ⟨L',hT,U,hv⟩=>next v w' L' (.aV x) hT U (.aV _ _ hv) ao
    ·rw[df _ hW,if_neg (by simp)];exact⟨fun _ _=>trivial,next undef w L .no Tr.refl h.bw .no ao⟩
  ·have fj:=H.size;rcases Nat.lt_or_ge i (N+m)with ev|ev
   ·-- a new variable
    obtain⟨k,rfl⟩:∃k,i=N+k:=⟨i - N,by omega⟩;have aB:k <m:=by omega
    obtain⟨oa,os,T,S,x,a1,s1,a2,a3,a4,s2,s3,s4,s5,s6,s7⟩:=H.pr k aB;rw[G]at a1;cases a1;obtain⟨Z,ai⟩:=aj (xs:=B0) (k:=k) (by omega);have ej:=eb k Z ai o G (E (N+k)) (Gf fr0 N m B0 B1 listed pend)
    have aG:step g C (some effs) (N+k) (E (N+k)) (Gf fr0 N m B0 B1 listed pend) o.op=some (.lp (Gf fr0 N m B0 B1 listed pend).length 0,Gf fr0 N m B0 B1 listed pend++[Z],[]):=by
     unfold step;simp only[(bi (N+k)).2 ⟨by omega,by omega⟩];exact ej
    have e4:listed.getD (N+m+k) true=false:=by
     rw[<- Bool.not_eq_true];intro ey;obtain⟨e,he,hb,ek⟩:=jg s5;have:=gA (h.dm (N+m+k) os s1 ey e he hb);rw[ek,hl]at this;cases this
    have bl:k∉pend:=fun D=>by
     have:=((h.mem k).1 D).2;rw[hl]at this;cases this
    have hG:Gf fr0 N m B0 B1 (listed.setIfInBounds (N+k) true) (pend++[k])=Gf fr0 N m B0 B1 listed pend++[Z]:=by
     unfold Gf;rw[List.map_append,<- List.append_assoc];congr 1
     ·congr 1;refine List.map_congr_left fun q _=>?_;unfold kj;rw[z _ (by omega)]
     ·show[kj N m B0 B1 _ k]=[Z]
      unfold kj;rw[z _ (by omega),e4];show[gB B0 k]=_
      unfold gB;rw[ai];rfl
    unfold wpOpIn;simp only[G];rw[if_pos (by simp[Region.wanted,a4])];refine(iv hS aG κ L a w h.bw (fun y hy=>by rw[a3]at hy;simp[Op.operands]at hy)).wpIn fun v w' ⟨L',hT,U,hv⟩=>?_;rw[<- hG]at U hv hT;refine ih (pend++[k]) L' _ _ _ b4 ⟨?_,?_,?_,?_,fun q=>?_,U,fun p q hp=>?_,fun j oj t av hj hd bb=>?_,fun t al ht=>?_,an⟩
    ·rw[put_defers];exact h.hd.tr h.bw hT
    ·rw[bY,h.hn]
    ·rw[Array.size_setIfInBounds];exact h.hs
    ·rw[List.nodup_append];refine⟨h.nd,by simp,fun q hq r hr e=>?_⟩;obtain rfl:r=k:=by simpa using hr
     exact bl (e ▸ hq)
    ·rw[List.mem_append,h.mem q];constructor
     ·rintro(⟨q1,q2⟩|q1)
      ·refine⟨q1,?_⟩;by_cases e:q=k
       ·subst e;exact aR
       ·rw[z _ (by omega)];exact q2
      ·obtain rfl:q=k:=by simpa using q1
       exact⟨aB,aR⟩
     ·rintro⟨q1,q2⟩;by_cases e:q=k
      ·exact .inr (by simp[e])
      ·rw[z _ (by omega)]at q2;exact .inl ⟨q1,q2⟩
    ·rcases Nat.lt_or_ge p pend.length with b2|b2
     ·rw[List.getElem?_append_left b2]at hp;have da:=List.mem_of_getElem? hp;have bd:q≠k:=fun e=>bl (e ▸ da);rw[ce (a:=a) (by rw[a2];intro e;exact bd (H.JT ((h.mem q).1 da).1 aB (Option.some.inj e).symm))];exact hT.sr (h.ptr p q hp)
     ·have c4:=aC hp;rw[List.getElem?_append_right b2]at hp;obtain rfl:p=pend.length:=by simp at c4;omega
      rw[Nat.sub_self]at hp;cases hp;rw[a2,fE (by rw[h.hn];exact aq _ o G _ a2),show fr0.length+pend.length=(Gf fr0 N m B0 B1 listed pend).length from yk.symm];exact hv
    ·have bd:o.dst≠some t:=fun e=>H.dst (N+k) o j oj t G hj (by omega) hd e;rw[ce bd];rw[z j (by omega)]at bb;exact hT.sr (h.done j oj t av hj hd bb)
    ·have bd:o.dst≠some t:=fun e=>by rw[a2]at e;cases e;exact al k aB rfl
     rw[ce bd];refine hT.sr (h.rest t al fun j oj av hj hd=>?_);have:=ht j oj av hj hd;rw[z j (by omega)]at this;exact this
   ·-- it is written
    obtain⟨k,rfl⟩:∃k,i=N+m+k:=⟨i - N - m,by omega⟩;have aB:k <m:=by omega
    obtain⟨oa,os,T,S,x,a1,s1,a2,a3,a4,s2,s3,s4,s5,s6,s7⟩:=H.pr k aB;rw[G]at s1;cases s1;obtain⟨Z,ai⟩:=aj (xs:=B0) (k:=k) (by omega);obtain⟨a6,bU⟩:=aj (xs:=B1) (k:=k) (by omega);have bl:k∈pend:=(h.mem k).2 ⟨aB,(ab _ s5).1⟩;obtain⟨p,hp⟩:=List.getElem?_of_mem bl;have bf:∀t,x=.tmp t->t≠cn ops (N+k):=fun t e1 e2=>s6 (by rw[e1,e2])
    have e5:∀t,x=.tmp t->∀q,q <m->t≠cn ops (N+q):=fun t e1 q hq e2=>by
     by_cases eR:q=k
     ·subst eR;exact bf t e1 e2
     ·obtain⟨_,_,_,_,_,_,_,_,_,_,_,_,_,_,_,hx⟩:=H.pr q hq;exact hx (N+m+k) o G (by omega) (by rw[s3,<- e2,e1];simp[Op.operands])
    have b5:rd (c9 (E (N+m+k)) (cn ops (N+k)) (.lp (fr0.length+p) 0)) (.tmp (cn ops (N+k)))=.lp (fr0.length+p) 0:=by
     show un (c9 _ _ _ _)=_
     rw[iA];rfl
    have bx:dE (c9 (E (N+m+k)) (cn ops (N+k)) (.lp (fr0.length+p) 0)) x=dE (E (N+m+k)) x:=by
     cases x with
     |tmp t=>show c9 _ _ _ t=_;rw[qM (bf t rfl)];rfl
     |_=>rfl
    have ee:(Gf fr0 N m B0 B1 listed pend)[fr0.length+p]?=some Z:=by
     rw[sH,hp,Option.map_some];unfold kj;rw[hl];show some (gB B0 k)=_
     unfold gB;rw[ai];rfl
    have dd:=ef k Z a6 ai bU o S (cn ops (N+k)) x G s3 (c9 (E (N+m+k)) (cn ops (N+k)) (.lp (fr0.length+p) 0)) (Gf fr0 N m B0 B1 listed pend) (fr0.length+p) b5 (by unfold rd;rw[bx]) ee
    have aG:step g C (some effs) (N+m+k) (c9 (E (N+m+k)) (cn ops (N+k)) (.lp (fr0.length+p) 0)) (Gf fr0 N m B0 B1 listed pend) o.op=some (.dead,(Gf fr0 N m B0 B1 listed pend).set (fr0.length+p) a6,[]):=by
     unfold step;simp only[(bi (N+m+k)).2 ⟨by omega,by omega⟩];exact dd
    have hG:Gf fr0 N m B0 B1 (listed.setIfInBounds (N+m+k) true) pend=(Gf fr0 N m B0 B1 listed pend).set (fr0.length+p) a6:=HN h.nd hp (by
     unfold kj;rw[aR];show gB B1 k=_
     unfold gB;rw[bU];rfl) fun q _ hq=>z _ (by omega)
    unfold wpOpIn;simp only[G];rw[if_pos (by simp[Region.wanted,s4])];refine(iv hS aG κ L a w h.bw (fun y hy=>?_)).wpIn fun v w' ⟨L',hT,U,hv⟩=>?_
    ·rw[s3]at hy;have hy:y=.tmp (cn ops (N+k))\/y=x:=by simpa[Op.operands]using hy
     rcases hy with rfl|rfl
     ·show SR _ _ _ (c9 _ _ _ _) _
      rw[iA];exact h.ptr p k hp
     ·rw[bx]
      cases y with
      |const v=>exact kz v
      |global g=>exact .dead _
      |func f=>exact .t _ _ (.fn _ [] #[] #[] rfl (fun j x u hx _=>by simp at hx))
      |tmp t=>exact aD t (e5 t rfl) (.inl (by rw[s3];simp[Op.operands]))
    ·rw[<- hG]at U hv hT;refine ih pend L' _ _ _ b4 ⟨?_,?_,?_,h.nd,fun q=>?_,U,fun p' q eN=>?_,fun j oj t av hj hd bb=>?_,fun t al ht=>?_,an⟩
     ·rw[put_defers];exact h.hd.tr h.bw hT
     ·rw[bY,h.hn]
     ·rw[Array.size_setIfInBounds];exact h.hs
     ·rw[h.mem q];constructor
      ·rintro⟨q1,q2⟩;exact⟨q1,by rw[z _ (by omega)];exact q2⟩
      ·rintro⟨q1,q2⟩;exact⟨q1,by rw[z _ (by omega)]at q2;exact q2⟩
     ·rw[ce (by rw[s2];intro e;cases e)];exact hT.sr (h.ptr p' q eN)
     ·rw[ce (by rw[s2];intro e;cases e)];rw[z j (by omega)]at bb;exact hT.sr (h.done j oj t av hj hd bb)
     ·rw[ce (by rw[s2];intro e;cases e)];refine hT.sr (h.rest t al fun j oj av hj hd=>?_);have:=ht j oj av hj hd;rw[z j (by omega)]at this;exact this
def OH{al:Option Nat}{dn:Nat}(hS:eK g.P γ C)(hok:vu ops effs=true)(V:iI n ops.toList=true){env env':Env}{fr fr':Fr}(he:pV g C effs ops env fr=some (env',fr')){Q:Exit->Act->World->Prop}
  (hK:∀L a w,Marks κ w a.defers->a.tmps.size=n->aw γ κ fr' L w->(∀t,SR (MA κ.M fr' L) L w (env' t) (a.tmps.getD t undef))->Q .normal a w)(hd:Marks κ w a.defers)(hn:a.tmps.size=n)(hC:aw γ κ fr L w)(hV:∀t,SR (MA κ.M fr L) L w (env t) (a.tmps.getD t undef)):wpAnyIn (Fw al) dn g.P .any ops Q ops.size (Array.replicate ops.size false) a w:=by
 obtain⟨N,m,Z,⟨r,D⟩,H⟩:=JY hok;have z:∀i,bS effs i=true↔N<=i/\i <N+(m+m):=fun i=>by rw[Z];exact K6
 have an:=H.size;unfold pV at he;rw[D]at he;simp only at he;rw[<- D]at he;split at he
 ·cases he
 ·rename_i e1 r1 ai;split at he
  ·rename_i y;cases he;obtain⟨E,F,a1,a2,a3,a4,a5⟩:=ue ops.toList 0 env fr ai
   have G:jx g C ops effs E F:=fun i o ho=>by
    have:=a3 i o (by rw[Array.getElem?_toList];exact ho);rwa[Nat.zero_add]at this
   rw[Array.length_toList]at a4 a5
   have ab:∀i,i<=N->F i=fr:=fun i hi=>by
    rw[<- a2]
    exact uS G 0 i (Nat.zero_le _) (by omega) fun q _ I hm=>by
     have:=(z q).1 (ry.2 hm);omega
   obtain⟨B0,b1,b2,b3⟩:=Hq H G z m (Nat.le_refl _);rw[a2]at b2 b3;obtain⟨B1,c1,c2,c3⟩:=Hr H G z b1 (by rw[a2];exact b2) (fun q J I=>by rw[a2];exact(b3 q J I).2) m (Nat.le_refl _);rw[List.drop_eq_nil_of_le (by omega),List.append_nil,a2,show N+m+m=ops.size by omega]at c2;unfold pU at y;rw[Bool.and_eq_true]at y;obtain⟨h1,h2⟩:=y
   have hD:∀q,q <m->E ops.size (cn ops (N+q))=.lp (fr.length+q) 0:=fun q I=>by
    obtain⟨J,ag⟩:=aj (xs:=B0) (k:=q) (by omega);obtain⟨oa,_,_,_,_,g1,_,g2,_⟩:=H.pr q I;rw[po G (cn ops (N+q)) (N+q+1) ops.size (by omega) (Nat.le_refl _) fun j o hj _ ho hd=>H.dst j o (N+q) oa _ ho g1 (by omega) g2 hd];exact(b3 q J ag).2
   refine RU (κ:=κ) (n:=n) hS H z V G ab b1 (fun q J I=>(b3 q J I).1) c1 c3 (fun pend L' listed a' w' U hM=>?_) _ [] L _ a w ?_ (li.start H hd hn hC fun t=>by rw[a1];exact hV t)
   ·have q1:∀b∈B1,yC b=true:=fun b hb=>List.all_eq_true.1 h1 b (by rw[<- a5,c2];simpa using hb)
    have q2:∀(i:Nat) (o:Oper) (t:Nat),i <N->ops[i]?=some o->o.dst=some t->∀r∈(E ops.size t).refs,r <fr.length:=fun i o t hi ho ad rr hr=>by
     have h3:=List.all_eq_true.1 h2 t (by
      unfold yV;rw[List.mem_filterMap];exact⟨o,List.mem_of_getElem? (i:=i) (by rw[List.getElem?_take,if_pos hi,Array.getElem?_toList];exact ho),ad⟩)
     rw[<- a4]at h3;have h4:=List.all_eq_true.1 h3 rr hr;simpa[Nat.blt_eq]using h4
    have q3:∀t,∀r∈(E 0 t).refs,r <fr.length:=fun t rr hr=>by
     rw[a1]at hr;obtain⟨u,hu⟩:=(hV t).reach rr hr;exact hC.lim _ _ hu
    have q4:∀b∈fr,∀r∈b.refs,r <fr.length:=fun b hb=>by
     obtain⟨k,hk⟩:=List.getElem?_of_mem hb;exact hC.inside hk
    have q5:∀j v,κ.L j=some v->j <fr.length:=fun j v hj=>by
     obtain⟨J,e1,_⟩:=hC.hand j v hj;exact aC e1
    obtain⟨L2,k1,k2⟩:=hM.fin H G U c1 c2 hD q1 q2 q3 q4 q5;rw[a5]at k1 k2;rw[a4]at k2;exact hK L2 a' w' hM.hd hM.hn k1 k2
   ·unfold eW;exact Nat.le_trans (List.countP_le_length) (by simp)
  ·cases he
end
def DP{ks:List Nat}{x:SV}(h:wc ks x=true):x.sub (dN ks)=x:=SV.xx x fun i u=>by
 have h1:=List.all_eq_true.1 h i u;rw[Bool.not_eq_true']at h1;unfold dN;rw[h1]
def LW{ks:List Nat}{b:Lb}(h:tH ks b=true):b.sub (dN ks)=b:=by
 have u:∀i∈b.refs,dN ks i=some i:=fun i D=>by
  have h1:=List.all_eq_true.1 h i D;rw[Bool.not_eq_true']at h1;unfold dN;rw[h1]
 cases b with
 |box v T y=>show Lb.box v T (SV.cM (dN ks) y)=_;rw[SV.pd y u]
 |map v k z=>show Lb.map v k (SV.cM (dN ks) z)=_;rw[SV.pd z u]
 |_=>rfl
def tJ(ks:List Nat)(e:Env)(t:Nat):dG ks e t=(e t).sub (dN ks):=by
 unfold dG;split
 ·have:dN []=some:=rfl;rw[this,SV.xy]
 ·rfl
def H8{g:Cfg}{C:CallF}{env:Env}{fr fr':Fr}{op:Op}{x:SV}{ks:List Nat}(v:wb op=true)(h:cd g C env fr op=some (x,fr',ks)){b:Nat}{z:Lb}(hb:fr[b]?=some z)(hk:b∉ks)(hl:tH ks z=true):fr'[b]?=fr[b]?:=by
 have I:∀(r:Fr),(fr++r)[b]?=fr[b]?:=fun r=>List.getElem?_append_left (aC hb)
 have set:∀(i:Nat) (y:Lb),ks=[i]->((fB [i] fr).set i y)[b]?=fr[b]?:=fun i y e=>by
  subst e;rw[List.getElem?_set_ne (by intro e;exact hk (by simp[e])),wg,hb];show some (z.sub (dN [i]))=some z
  rw[LW hl]
 cases op
 case call c=>
  obtain⟨u,D,J⟩:=c;cases u
  case builtin G=>
   cases G
   case append=>
    unfold cd ca at h;simp only[iL]at h;split at h
    ·split at h
     ·unfold sQ at h
      repeat'(split at h)
      all_goals first
       |(cases h;done)
       |(cases h;exact I _)
       |(cases h;exact set _ _ rfl)
     ·cases h
    ·cases h
   all_goals(cases v)
  all_goals(cases v)
 all_goals(cases v)
section
variable {g:Cfg} {γ:Glob} {κ:Ctx} {C:CallF} {ops:Array Oper} {effs:List Nat} {n:Nat} {E:Nat->Env} {F:Nat->Fr} {p:Nat} {L:Ls} {listed:Array Bool} {a:Act} {w:World}
abbrev qT(ops:Array Oper)(E:Nat->Env):Prop:=∀(i:Nat) (o:Oper),ops[i]?=some o->∀t,o.dst≠some t->E (i+1) t=E i t
theorem stay(hm:qT ops E)(t j:Nat):∀i,j<=i->i<=ops.size->(∀(k:Nat) (o:Oper),j<=k->k <i->ops[k]?=some o->o.dst≠some t)->E i t=E j t
 |0,h,_,_=>by
   obtain rfl:j=0:=by omega
   rfl
 |i+1,h,D,v=>by
  rcases Nat.lt_or_ge i j with h1|h1
  ·obtain rfl:j=i+1:=by omega
   rfl
  ·have y:=Array.getElem?_eq_getElem (xs:=ops) (i:=i) (by omega);rw[hm i _ y t (v i _ h1 (by omega) y)];exact stay hm t j i h1 (by omega) fun k o u z=>v k o u (by omega)
def dl.GX(hok:DrawB ops)(hm:qT ops E)(h:dl γ κ ops effs n E F p L listed a w){i t:Nat}(hi:i<=ops.size)
  (h1:∀(k:Nat) (ok:Oper),ops[k]?=some ok->ok.dst=some t->listed.getD k true=true->k <i)(h2:∀(k:Nat) (ok:Oper),ops[k]?=some ok->ok.dst=some t->listed.getD k true=false->i<=k):SR (MA κ.M (F p) L) L w (E i t) (a.tmps.getD t undef):=by
 by_cases v:∃(k:Nat) (ok:Oper),ops[k]?=some ok/\ok.dst=some t/\listed.getD k true=true
 ·obtain⟨k,ok,u,hd,z⟩:=v;have D:=h1 k ok u hd z;rw[stay hm t (k+1) i (by omega) hi fun m om I J G=>hok.dst m om k ok t G u (by omega) hd];exact h.done k ok t u hd z
 ·have y:∀(k:Nat) (o:Oper),ops[k]?=some o->o.dst=some t->listed.getD k true=false:=fun k o u hd=>by
   rw[<- Bool.not_eq_true];exact fun z=>v ⟨k,o,u,hd,z⟩
  rw[stay hm t 0 i (Nat.zero_le _) hi fun k o _ D u hd=>by have:=h2 k o u hd (y k o u hd);omega];exact h.rest t y
def dl.looks(hok:DrawB ops)(hm:qT ops E)(h:dl γ κ ops effs n E F p L listed a w){i:Nat}{o:Oper}(ho:ops[i]?=some o)(hl:listed.getD i true=false)(G:∀e∈o.after,Region.binds .any e=true->listed.getD e.on false=true):
  ∀t,(.tmp t∈o.op.operands\/∃j Z,ops[j]?=some Z/\Z.dst=some t/\dM o j=true)->SR (MA κ.M (F p) L) L w (E i t) (a.tmps.getD t undef):=fun t ht=>by
 have ag:=(Array.getElem?_eq_some_iff.1 ho).1
 have u:∀k,dM o k=true->listed.getD k true=true/\k <i:=fun k z=>by
  obtain⟨e,V,U,rfl⟩:=jg z;exact⟨gA (G e V U),hok.back i o ho e V U⟩
 refine h.GX hok hm (by omega) (fun k ok z hd v=>?_) (fun k ok z hd v=>?_)
 ·have ad:k≠i:=fun e=>by subst e;rw[hl]at v;cases v
  rcases ht with hy|⟨j,Z,J,D,I⟩
  ·rcases hok.use i o k ok t ho z ad hd hy with h1|h1
   ·exact(u k h1).2
   ·obtain⟨e,V,U,rfl⟩:=jg h1;have:=gA (h.dm k ok z v e V U);rw[hl]at this;cases this
  ·by_cases y:k=j
   ·subst y;exact(u k I).2
   ·exact absurd D (hok.dst j Z k ok t J z y hd)
 ·rcases Nat.lt_or_ge k i with ai|ab
  ·rcases ht with hy|⟨j,Z,J,D,I⟩
   ·rcases hok.use i o k ok t ho z (by omega) hd hy with h1|h1
    ·have:=(u k h1).1;rw[v]at this;cases this
    ·obtain⟨e,V,U,rfl⟩:=jg h1;have:=hok.back k ok z e V U;omega
   ·by_cases y:k=j
    ·subst y;have:=(u k I).1;rw[v]at this;cases this
    ·exact absurd D (hok.dst j Z k ok t J z y hd)
  ·exact ab
def ze{A:Nat->Prop}{e:Env}{op:Op}(h:∀t,.tmp t∈op.operands->SR A L w (e t) (a.tmps.getD t undef)):∀y∈op.operands,SR A L w (dE e y) (a.eval y):=fun y D=>by
 cases y with
 |const v=>exact kz v
 |global g=>exact .dead _
 |func f=>exact .t _ _ (.fn _ [] #[] #[] rfl (fun j x u z _=>by simp at z))
 |tmp t=>exact h t D
def xj{i q:Nat}(hs:i <listed.size)(h:∀e∈effs,e <q->e≠i->listed.getD e true=true):∀e∈effs,e <q->(listed.setIfInBounds i true).getD e true=true:=fun e y v=>by
 by_cases u:e=i
 ·subst u;rw[Array.getD_eq_getD_getElem?,Array.getElem?_setIfInBounds_self_of_lt hs];rfl
 ·rw[getD_set_ne true (Ne.symm u)];exact h e y v u
def dl.next(hok:DrawB ops)(U:iI n ops.toList=true){i:Nat}{o:Oper}(ho:ops[i]?=some o)(h:dl γ κ ops effs n E F p L listed a w)(hl:listed.getD i true=false)(G:∀e∈o.after,Region.binds .any e=true->listed.getD e.on false=true){q:Nat}(hq:q<=ops.size)
  (ab:∀e∈effs,e <q->(listed.setIfInBounds i true).getD e true=true)(I:∀e∈effs,q<=e->e <ops.size->(listed.setIfInBounds i true).getD e true=false)
  {v:Value}{w':World}{L':Ls}{x:SV}(hT:Tr κ.M (F p) L w (F q) L' w' [])(ad:aw γ κ (F q) L' w')(hv:SR (MA κ.M (F q) L') L' w' x v)(ag:E (i+1)=aH (E i) o.dst x):dl γ κ ops effs n E F q L' (listed.setIfInBounds i true) (a.put o.dst v) w':=by
 have Z:=(Array.getElem?_eq_some_iff.1 ho).1;have D:∀d,o.dst=some d->d <n:=fun d hd=>jD U (Array.mem_toList_iff.2 (Array.mem_of_getElem? ho)) hd;refine⟨?_,?_,?_,hq,ab,I,ad,fun k ok t y hd z=>?_,fun t ht=>?_,fun k ok y z e he J=>?_⟩
 ·rw[put_defers];exact h.hd.tr h.bw hT
 ·rw[bY,h.hn]
 ·rw[Array.size_setIfInBounds];exact h.hs
 ·by_cases u:k=i
  ·subst u;rw[ho]at y;cases y;rw[ag,hd,fE (by rw[h.hn];exact D t hd)];show SR _ _ _ (c9 _ t x t) v
   rw[iA];exact hv
  ·rw[ce (hok.dst i o k ok t ho y u hd)];rw[getD_set_ne true (Ne.symm u)]at z;exact hT.sr (h.done k ok t y hd z)
 ·have V:o.dst≠some t:=fun hd=>by
   have ai:i <listed.size:=by rw[h.hs];exact Z
   have:=ht i o ho hd;rw[Array.getD_eq_getD_getElem?,Array.getElem?_setIfInBounds_self_of_lt ai]at this;cases this
  rw[ce V];refine hT.sr (h.rest t fun k ok y hd=>?_);have u:k≠i:=fun e=>by subst e;rw[ho]at y;cases y;exact V hd
  have:=ht k ok y hd;rw[getD_set_ne true (Ne.symm u)]at this;exact this
 ·by_cases u:k=i
  ·subst u;rw[ho]at y;cases y;exact getD_set_true (G e he J)
  ·rw[getD_set_ne true (Ne.symm u)]at z;exact getD_set_true (h.dm k ok y z e he J)
theorem dl.op(hS:eK g.P γ C)(hok:DrawB ops)(D:iI n ops.toList=true)(hm:qT ops E){Ei:Env}{i:Nat}{o:Oper}(ho:ops[i]?=some o)(h:dl γ κ ops effs n E F p L listed a w)(hl:listed.getD i true=false)(u:∀e∈o.after,Region.binds .any e=true->listed.getD e.on false=true)
  (ao:∀t,(.tmp t∈o.op.operands\/∃j oj,ops[j]?=some oj/\oj.dst=some t/\dM o j=true)->Ei t=E i t){q:Nat}(hq:q<=ops.size)
  (J:∀e∈effs,e <q->(listed.setIfInBounds i true).getD e true=true)(z:∀e∈effs,q<=e->e <ops.size->(listed.setIfInBounds i true).getD e true=false)
  (hst:match o.guard with
   |none=>∃x,step g C (some effs) i Ei (F p) o.op=some (x,F q,[])/\E (i+1)=aH (E i) o.dst x
   |some (j,y)=>(cP ops Ei j y=some true/\∃x,step g C (some effs) i Ei (F p) o.op=some (x,F q,[])/\E (i+1)=aH (E i) o.dst (.aV x))\/(cP ops Ei j y=some false/\F q=F p/\E (i+1)=aH (E i) o.dst .no))
  {rd:Option Nat}{dn:Nat}{Q:Exit->Act->World->Prop}{R:Act->World->Prop}(hR:∀L' a' w',dl γ κ ops effs n E F q L' (listed.setIfInBounds i true) a' w'->R a' w'):wpOpIn (Fw rd) dn g.P ops Q i R a w:=by
 have ad:=h.looks hok hm ho hl u;have G:∀t,(.tmp t∈o.op.operands\/∃j oj,ops[j]?=some oj/\oj.dst=some t/\dM o j=true)->SR (MA κ.M (F p) L) L w (Ei t) (a.tmps.getD t undef):=fun t ht=>by rw[ao t ht];exact ad t ht
 have al:=ze (a:=a) fun t ht=>G t (.inl ht);unfold wpOpIn;simp only[ho]
 cases hg:o.guard with
 |none=>
  rw[hg]at hst;obtain⟨x,U,I⟩:=hst;rw[if_pos (by simp[Region.wanted,hg])];exact(iv hS U κ L a w h.bw al).wpIn fun v w' ⟨L',hT,ab,hv⟩=>hR L' _ _ (h.next hok D ho hl u hq J z hT ab hv I)
 |some gj=>
  obtain⟨j,y⟩:=gj;rw[hg]at hst;have aq:=hok.guard i o j y ho hg
  have an:∀W,cP ops Ei j y=some W->Region.wanted o (yielded ops a.tmps)=W:=fun W hW=>pm (A:=MA κ.M (F p) L) (L:=L) (w:=w) hg hW fun d V=>by
   cases Z:ops[j]? with
   |none=>rw[Z]at V;cases V
   |some oj=>
    rw[Z]at V;have ai:oj.dst=some d:=V;exact⟨G d (.inr ⟨j,oj,Z,ai,aq⟩),by rw[h.hn];exact jD D (Array.mem_toList_iff.2 (Array.mem_of_getElem? Z)) ai⟩
  rcases hst with⟨hW,x,U,I⟩|⟨hW,ag,I⟩
  ·rw[an _ hW,if_pos rfl];exact(iv hS U κ L a w h.bw al).wpIn fun v w' ⟨L',hT,ab,hv⟩=>hR L' _ _ (h.next hok D ho hl u hq J z hT ab (.aV _ _ hv) I)
  ·rw[an _ hW,if_neg (by simp)];refine⟨fun _ _=>trivial,hR L _ _ (h.next hok D ho hl u hq J z (x:=.no) ?_ ?_ .no I)⟩
   ·rw[ag];exact Tr.refl
   ·rw[ag];exact h.bw
structure j6 (g:Cfg) (C:CallF) (ops:Array Oper) (effs:List Nat) (E:Nat->Env) (F:Nat->Fr) (m:Nat) (om:Oper) (x:SV) (ks:List Nat):Prop where
 hB:nr g C ops effs E F m
 hA:∀(i:Nat) (o:Oper),m <i->ops[i]?=some o->mr g C effs ops i o (E i) (F i) (E (i+1)) (F (i+1))
 kH:ops[m]?=some om
 hg:om.guard=none
 hx:cd g C (E m) (F m) om.op=some (x,F (m+1),ks)
 hE:E (m+1)=aH (dG ks (E m)) om.dst x
 me:m∈effs
 gO:wb om.op=true
 last:∀e∈effs,e <ops.size->e<=m
 behind:∀i,m <i->i <ops.size->((Region.before ops).getD i 0).testBit m=true
 KL:∀(i:Nat) (o:Oper),i <m->ops[i]?=some o->((Region.before ops).getD m 0).testBit i=false->i∉effs/\o_ ops o.op i m=true/\(∀t∈qD ops o,wc ks (E m t)=true)/\∃rl,dH (E m) o.op=some rl/\∀b∈rl,b∉ks/\∀lb,(F m)[b]?=some lb->tH ks lb=true
variable {m:Nat} {om:Oper} {x:SV} {ks:List Nat}
def LX{e:Env}{r:Fr}(h:rJ effs ops m e r om ks=true):m∈effs/\wb om.op=true/\(∀e∈effs,e <ops.size->e<=m)/\(∀i,m <i->i <ops.size->((Region.before ops).getD i 0).testBit m=true)/\
  ∀(i:Nat) (o:Oper),i <m->ops[i]?=some o->((Region.before ops).getD m 0).testBit i=false->i∉effs/\o_ ops o.op i m=true/\(∀t∈qD ops o,wc ks (e t)=true)/\∃v,dH e o.op=some v/\∀b∈v,b∉ks/\∀J,r[b]?=some J->tH ks J=true:=by
 unfold rJ at h;rw[Bool.and_eq_true,Bool.and_eq_true,Bool.and_eq_true]at h;obtain⟨h1,h2,h3,h4⟩:=h;refine⟨?_,h2,fun e he hs=>?_,fun i u hs=>?_,fun i o u V D=>?_⟩
 ·by_cases u:m∈effs
  ·exact u
  ·rw[fP.2 u]at h1;cases h1
 ·have:=List.all_eq_true.1 h3 e he;rw[Bool.or_eq_true,Nat.ble_eq,Nat.ble_eq]at this;omega
 ·have:=List.all_eq_true.1 h4 i (List.mem_range.2 hs);have y:Nat.beq i m=false:=by rw[<- Bool.not_eq_true,Nat.beq_eq];omega
  have z:Nat.blt i m=false:=by rw[<- Bool.not_eq_true,Nat.blt_eq];omega
  rw[y,z]at this;simpa using this
 ·have hs:=(Array.getElem?_eq_some_iff.1 V).1;have:=List.all_eq_true.1 h4 i (List.mem_range.2 hs);have y:Nat.beq i m=false:=by rw[<- Bool.not_eq_true,Nat.beq_eq];omega
  have z:Nat.blt i m=true:=by rw[Nat.blt_eq];omega
  rw[y,z]at this;simp only[D,V,Bool.false_or,Bool.and_eq_true]at this;obtain⟨Z,a2,a3,a4⟩:=this;refine⟨fP.1 (by simpa using Z),a2,fun t ht=>List.all_eq_true.1 a3 t ht,?_⟩;split at a4
  ·rename_i v I;refine⟨v,I,fun b D=>?_⟩;have:=List.all_eq_true.1 a4 b D;rw[Bool.and_eq_true]at this;refine⟨fP.1 (by simpa using this.1),fun J G=>?_⟩;have U:=this.2;rw[G]at U;exact U
  ·cases a4
def EK(E:Nat->Env)(ks:List Nat)(m:Nat):Nat->Env:=fun i=>if i<=m then dG ks (E i)else E i
def n8{i:Nat}(h:i<=m):EK E ks m i=dG ks (E i):=if_pos h
def j5{i:Nat}(h:m <i):EK E ks m i=E i:=if_neg (by omega)
def Bi{i:Nat}{o:Oper}{e u:Env}{f v:Fr}(h:mr g C effs ops i o e f u v):∃y,u=aH e o.dst y:=by
 have:=h.2;split at this
 ·obtain⟨y,_,h2⟩:=this;exact⟨_,h2⟩
 ·rcases this with⟨_,y,_,h2⟩|⟨_,_,h2⟩
  ·exact⟨_,h2⟩
  ·exact⟨_,h2⟩
def QO{i:Nat}{o:Oper}{e z:Env}{f u:Fr}(h:mr g C effs ops i o e f z u)(hn:i∉effs):u=f:=by
 have:=h.2
 have v:∀{op y},step g C (some effs) i e f op=some (y,u,[])->u=f:=fun{op y} h=>by
  unfold step at h;simp only[fP.2 hn]at h;exact(vH h).1
 split at this
 ·obtain⟨y,h2,_⟩:=this;exact v h2
 ·rcases this with⟨_,y,h2,_⟩|⟨_,h2,_⟩
  ·exact v h2
  ·exact h2
def j6.Bh(H:j6 g C ops effs E F m om x ks):qT ops (EK E ks m):=fun i o u t v=>by
 rcases Nat.lt_trichotomy i m with h|h|h
 ·obtain⟨y,z⟩:=Bi (H.hB.2 i o h u);rw[n8 (by omega),n8 (by omega),tJ,tJ,z,ld v]
 ·subst h;have:=H.kH;rw[u]at this;cases this;rw[j5 (by omega),n8 (Nat.le_refl _),H.hE,ld v]
 ·obtain⟨y,z⟩:=Bi (H.hA i o h u);rw[j5 (by omega),j5 (by omega),z,ld v]
def j6.Bg(H:j6 g C ops effs E F m om x ks):qT ops (fun i=>E (min i m)):=fun i o u t v=>by
 show E (min (i+1) m) t=E (min i m) t
 rcases Nat.lt_or_ge i m with h|h
 ·obtain⟨y,z⟩:=Bi (H.hB.2 i o h u);rw[Nat.min_eq_left (show i+1<=m by omega),Nat.min_eq_left (show i<=m by omega),z,ld v]
 ·rw[Nat.min_eq_right (show m<=i+1 by omega),Nat.min_eq_right h]
theorem j6.F2(H:j6 g C ops effs E F m om x ks):∀i,m <i->i<=ops.size->F i=F (m+1)
 |0,h,_=>by omega
 |i+1,h,y=>by
  rcases Nat.lt_or_ge m i with h1|h1
  ·have v:=Array.getElem?_eq_getElem (xs:=ops) (i:=i) (by omega);rw[QO (H.hA i _ h1 v) fun u=>by have:=H.last i u (by omega);omega];exact j6.F2 H i h1 (by omega)
  ·obtain rfl:i=m:=by omega
   rfl
def LY{e:Env}{d:Option Nat}{y:SV}(h:∀t,d=some t->y.sub (dN ks)=y):dG ks (aH e d y)=aH (dG ks e) d y:=by
 funext t;rw[tJ];by_cases hd:d=some t
 ·subst hd;show((c9 e t y) t).sub _=c9 _ t y t
  rw[iA,iA,h t rfl]
 ·rw[ld hd,ld hd,tJ]
def j6.late(H:j6 g C ops effs E F m om x ks)(hok:DrawB ops){E':Nat->Env}(h:dl γ κ ops effs n E' F (m+1) L listed a w){i:Nat}{o:Oper}(U:i <m)(ho:ops[i]?=some o)(hl:listed.getD i true=false)(hb:((Region.before ops).getD m 0).testBit i=false):
  (∀t,(.tmp t∈o.op.operands\/∃j I,ops[j]?=some I/\I.dst=some t/\dM o j=true)->E i t=EK E ks m i t)/\
  (∀y,step g C (some effs) i (E i) (F i) o.op=some (y,F (i+1),[])->step g C (some effs) i (E i) (F (m+1)) o.op=some (y,F (m+1),[]))/\∀y,E (i+1)=aH (E i) o.dst y->EK E ks m (i+1)=aH (EK E ks m i) o.dst y:=by
 obtain⟨D,al,V,rl,aD,ai⟩:=H.KL i o U ho hb;have hB:=H.hB.1
 have G:∀t,(.tmp t∈o.op.operands\/∃j I,ops[j]?=some I/\I.dst=some t/\dM o j=true)->E m t=E i t/\t∈qD ops o:=fun t ht=>by
  rcases ht with v|⟨j,I,ag,J,av⟩
  ·refine⟨tg H.hB (by omega) (Nat.le_refl _) al (.tmp t) v,?_⟩;unfold qD uF;rw[List.mem_append,List.mem_filterMap];exact .inl ⟨.tmp t,Array.mem_toList_iff.2 v,rfl⟩
  ·obtain⟨e,he,aq,rfl⟩:=jg av;have aG:=hok.back i o ho e he aq;refine⟨sF H.hB t i m (by omega) (Nat.le_refl _) fun k ok hk _ z hd=>?_,?_⟩
   ·exact hok.dst e.on I k ok t ag z (by omega) hd J
   ·unfold qD;rw[List.mem_append,List.mem_append,List.mem_filterMap];exact .inr (.inr ⟨e,Array.mem_toList_iff.2 he,by rw[ag];exact J⟩)
 refine⟨fun t ht=>?_,fun y v=>?_,fun y v=>?_⟩
 ·obtain⟨h1,h2⟩:=G t ht;rw[n8 (by omega),tJ,<- h1,DP (V t h2)]
 ·have u:dH (E i) o.op=some rl:=by rw[<- aD];exact(AD (tg H.hB (by omega) (Nat.le_refl _) al)).symm
  have aB:=uR H.hB U D;have aR:=v;unfold step at v⊢;simp only[fP.2 D]at v⊢;rw[aB]at v
  cases ad:mI o.op with
  |true=>exact zH ad u v
  |false=>
  unfold ig at v⊢;simp only[ad]at v⊢;obtain⟨an,_,_⟩:=uM v;have ab:=AF u an
  have ao:∀b∈rl,(F i)[b]?=(F (m+1))[b]?:=fun b hb=>by
   have h1:(F m)[b]?=(F i)[b]?:=uT H.hB i b (ab b hb) m (by omega) (Nat.le_refl _) fun m' aV h2 h3 h4 h5=>by
    have aJ:m'≠i:=fun e=>D (by rw[<- e];exact h4);obtain⟨wl,aX,e1,e2,e3⟩:=Et H.hB h ho hl D (show i <m' by omega) (by omega) h3 h4 h5;rw[u]at e2;cases e2;exact⟨wl,e1,e3 b hb⟩
   obtain⟨lb,Z⟩:=aj (ab b hb);rw[Z]at h1;rw[H8 H.gO H.hx h1 (ai b hb).1 ((ai b hb).2 lb h1),h1,Z]
  rw[<- AG u ao,an];rfl
 ·rw[n8 (by omega),n8 (by omega),v];refine LY fun t hd=>?_;have h1:E m t=E (i+1) t:=sF H.hB t (i+1) m (by omega) (Nat.le_refl _) fun k ok hk _ z au=>hok.dst i o k ok t ho z (by omega) au hd;have h2:E (i+1) t=y:=by rw[v,hd];exact iA ..
  rw[<- h2,<- h1];exact DP (V t (by unfold qD;rw[List.mem_append,List.mem_append,Option.mem_toList];exact .inr (.inl hd)))
def RX{rd:Option Nat}{dn:Nat}(hS:eK g.P γ C)(hok:qQ ops effs)(ad:iI n ops.toList=true)(H:j6 g C ops effs E F m om x ks){Q:Exit->Act->World->Prop}
  (hK:∀L a w,Marks κ w a.defers->a.tmps.size=n->aw γ κ (F ops.size) L w->(∀t,SR (MA κ.M (F ops.size) L) L w (E ops.size t) (a.tmps.getD t undef))->Q .normal a w):
  ∀(u:Nat) (L:Ls) (listed:Array Bool) (a:Act) (w:World),eW listed ops.size<=u->listed.getD m true=true->dl γ κ ops effs n (EK E ks m) F (m+1) L listed a w->wpAnyIn (Fw rd) dn g.P .any ops Q u listed a w:=by
 have ab:=(Array.getElem?_eq_some_iff.1 H.kH).1
 have fin:∀(L:Ls) (listed:Array Bool) (a:Act) (w:World),(∀k,k <ops.size->listed.getD k true=true)->dl γ κ ops effs n (EK E ks m) F (m+1) L listed a w->Q .normal a w:=fun L listed a w z h=>by
  have hF:=H.F2 ops.size ab (Nat.le_refl _);refine hK L a w h.hd h.hn (by rw[hF];exact h.bw) fun t=>?_;rw[hF,<- j5 (E:=E) (ks:=ks) ab]
  exact h.GX hok.toDrawB H.Bh (Nat.le_refl _) (fun k ok hk _ _=>(Array.getElem?_eq_some_iff.1 hk).1) (fun k ok hk _ I=>by
   have:=z k (Array.getElem?_eq_some_iff.1 hk).1;rw[I]at this;cases this)
 intro u
 induction u with
 |zero=>
  intro L listed a w hu V h;have z:=sB (listed:=listed) ops.size (by omega);refine⟨?_,fin L listed a w z h⟩
  cases hr:Region.ready .any ops listed with
  |nil=>rfl
  |cons i l=>
   have hm:i∈Region.ready .any ops listed:=by rw[hr];simp
   obtain⟨I,o,ho,_⟩:=mem_ready.1 hm;have:=z i (Array.getElem?_eq_some_iff.1 ho).1;rw[I]at this;cases this
 |succ u ih=>
  intro L listed a w hu V h;refine⟨fun hr=>fin L listed a w (u2 hok.toDrawB h.hs hr) h,fun i hi=>?_⟩;obtain⟨I,o,ho,J⟩:=mem_ready.1 hi;have D:=(Array.getElem?_eq_some_iff.1 ho).1
  have aq:eW (listed.setIfInBounds i true) ops.size<=u:=by
   have:=qL I ops.size;rw[if_pos D]at this;omega
  have an:i≠m:=fun e=>by subst e;rw[V]at I;cases I
  have av:i∉effs:=fun he=>by
   have:=H.last i he D;have:=h.low i he (by omega);rw[I]at this;cases this
  have ai:∀L' a' w',dl γ κ ops effs n (EK E ks m) F (m+1) L' (listed.setIfInBounds i true) a' w'->wpAnyIn (Fw rd) dn g.P .any ops Q u (listed.setIfInBounds i true) a' w':=fun L' a' w' h'=>ih L' _ a' w' aq (by rw[getD_set_ne true an];exact V) h';have ag:=xj (listed:=listed) (i:=i) (effs:=effs) (q:=m+1) (by rw[h.hs];exact D) fun e he Z _=>h.low e he Z
  have U:∀e∈effs,m+1<=e->e <ops.size->(listed.setIfInBounds i true).getD e true=false:=fun e he h1 h2=>by
   have:=H.last e he h2;omega
  rcases Nat.lt_or_ge i m with Z|au
  ·have hb:((Region.before ops).getD m 0).testBit i=false:=by
    rw[<- Bool.not_eq_true];intro hb;have:=h.jy (ns hb) fun o' ao=>h.dm m o' ao V;rw[I]at this;cases this
   obtain⟨h1,h2,h3⟩:=H.late hok.toDrawB h Z ho I hb;refine h.op hS hok.toDrawB ad H.Bh ho I J h1 ab ag U ?_ ai;have v:=(H.hB.2 i o Z ho).2
   cases hg:o.guard with
   |none=>
    rw[hg]at v;obtain⟨y,a1,a2⟩:=v;exact⟨y,h2 y a1,h3 y a2⟩
   |some gj=>
    obtain⟨j,al⟩:=gj;rw[hg]at v;rcases v with⟨hW,y,a1,a2⟩|⟨hW,_,a2⟩
    ·exact .inl ⟨hW,y,h2 y a1,h3 _ a2⟩
    ·exact .inr ⟨hW,rfl,h3 _ a2⟩
  ·have G:m <i:=by omega
   have f1:=H.F2 i G (by omega);have f2:=H.F2 (i+1) (by omega) D;refine h.op (Ei:=E i) hS hok.toDrawB ad H.Bh ho I J (fun t _=>by rw[j5 G]) ab ag U ?_ ai;have v:=(H.hA i o G ho).2;rw[f1,f2]at v
   cases hg:o.guard with
   |none=>
    rw[hg]at v;obtain⟨y,a1,a2⟩:=v;exact⟨y,a1,by rw[j5 (by omega),j5 G];exact a2⟩
   |some gj=>
    obtain⟨j,al⟩:=gj;rw[hg]at v;rcases v with⟨hW,y,a1,a2⟩|⟨hW,_,a2⟩
    ·exact .inl ⟨hW,y,a1,by rw[j5 (by omega),j5 G];exact a2⟩
    ·exact .inr ⟨hW,rfl,by rw[j5 (by omega),j5 G];exact a2⟩
def RW{rd:Option Nat}{dn:Nat}(hS:eK g.P γ C)(hok:qQ ops effs)(ag:iI n ops.toList=true)(H:j6 g C ops effs E F m om x ks){Q:Exit->Act->World->Prop}
  (hK:∀L a w,Marks κ w a.defers->a.tmps.size=n->aw γ κ (F ops.size) L w->(∀t,SR (MA κ.M (F ops.size) L) L w (E ops.size t) (a.tmps.getD t undef))->Q .normal a w):
  ∀(I p:Nat) (L:Ls) (listed:Array Bool) (a:Act) (w:World),eW listed ops.size<=I->listed.getD m true=false->dl γ κ ops effs n (fun i=>E (min i m)) F p L listed a w->wpAnyIn (Fw rd) dn g.P .any ops Q I listed a w:=by
 have aG:=(Array.getElem?_eq_some_iff.1 H.kH).1;intro I
 induction I with
 |zero=>
  intro p L listed a w hu ad h;have aR:=sB (listed:=listed) ops.size (by omega);rw[aR m aG]at ad;cases ad
 |succ I ih=>
  intro p L listed a w hu ad h;refine⟨fun hr=>?_,fun i hi=>?_⟩
  ·rw[u2 hok.toDrawB h.hs hr m aG]at ad;cases ad
  obtain⟨hl,o,ho,J⟩:=mem_ready.1 hi;have u:=(Array.getElem?_eq_some_iff.1 ho).1
  have bd:eW (listed.setIfInBounds i true) ops.size<=I:=by
   have:=qL hl ops.size;rw[if_pos u]at this;omega
  have D:∀k,gM ops i k->listed.getD k true=true:=fun k ha=>h.jy ha fun o' an=>by rw[ho]at an;cases an;exact J
  have bx:p<=m:=by
   rcases Nat.lt_or_ge m p with h1|h1
   ·have:=h.low m H.me h1;rw[ad]at this;cases this
   ·exact h1
  have ai:=h.looks hok.toDrawB H.Bg ho hl J
  have av:i∈effs->i<=m->F i=F p:=fun V Z=>by
   have bm:p<=i:=by
    rcases Nat.lt_or_ge i p with h1|h1
    ·have:=h.low i V h1;rw[hl]at this;cases this
    ·exact h1
   refine sG H.hB p i bm Z fun q h1 h2 h3=>?_;have:=D q (hok.eff i V q h3 u h2);rw[h.p6 q h3 h1 (by omega)]at this;cases this
  rcases Nat.lt_trichotomy i m with Z|Z|Z
  ·-- ahead of it in the text
   have au:=ze (a:=a) fun t ht=>ai t (.inl ht);have z:min i m=i:=Nat.min_eq_left (by omega);have G:min (i+1) m=i+1:=Nat.min_eq_left (by omega);have a6:∀q L' a' w',dl γ κ ops effs n (fun i=>E (min i m)) F q L' (listed.setIfInBounds i true) a' w'->wpAnyIn (Fw rd) dn g.P .any ops Q I (listed.setIfInBounds i true) a' w':=fun q L' a' w' h'=>ih q L' _ a' w' bd (by rw[getD_set_ne true (by omega)];exact ad) h';have U:=(H.hB.2 i o Z ho).2;by_cases V:i∈effs
   ·have hF:=av V (by omega);refine h.op (Ei:=E i) (q:=i+1) hS hok.toDrawB ag H.Bg ho hl J (fun t _=>by rw[z]) (by omega) (xj (by rw[h.hs];exact u) fun e he aq bl=>D e (hok.eff i V e he u (by omega))) (fun e he aX aD=>?_) ?_ (a6 _)
    ·rw[getD_set_ne true (by omega),<- Bool.not_eq_true];intro bi;have:=h.jy (hok.eff e he i V aD (by omega)) fun o' an=>h.dm e o' an bi;rw[hl]at this;cases this
    ·rw[hF]at U
     cases hg:o.guard with
     |none=>
      rw[hg]at U;obtain⟨y,a1,a2⟩:=U;exact⟨y,a1,by rw[z,G];exact a2⟩
     |some gj=>
      obtain⟨j,be⟩:=gj;rw[hg]at U;rcases U with⟨hW,y,a1,a2⟩|⟨hW,a1,a2⟩
      ·exact .inl ⟨hW,y,a1,by rw[z,G];exact a2⟩
      ·exact .inr ⟨hW,a1,by rw[z,G];exact a2⟩
   ·refine h.op (Ei:=E i) (q:=p) hS hok.toDrawB ag H.Bg ho hl J (fun t _=>by rw[z]) h.hp (xj (by rw[h.hs];exact u) fun e he aq _=>h.low e he aq) (fun e he aX aD=>?_) ?_ (a6 _)
    ·rw[getD_set_ne true (fun e'=>V (by rw[e'];exact he))];exact h.p6 e he aX aD
    ·have bb:=fun y=>Eu (x:=y) H.hB h bx Z ho hl V D (by rw[z]at au;exact au)
     cases hg:o.guard with
     |none=>
      rw[hg]at U;obtain⟨y,a1,a2⟩:=U;exact⟨y,bb y a1,by rw[z,G];exact a2⟩
     |some gj=>
      obtain⟨j,be⟩:=gj;rw[hg]at U;rcases U with⟨hW,y,a1,a2⟩|⟨hW,a1,a2⟩
      ·exact .inl ⟨hW,y,bb y a1,by rw[z,G];exact a2⟩
      ·exact .inr ⟨hW,rfl,by rw[z,G];exact a2⟩
  ·-- the append itself
   subst Z
   have eo:o=om:=by
    have h1:=H.kH;rw[ho]at h1;exact Option.some.inj h1
   subst eo;have hF:=av H.me (Nat.le_refl _)
   have ao:∀t,.tmp t∈o.op.operands->SR (MA κ.M (F p) L) L w (E i t) (a.tmps.getD t undef):=fun t ht=>by
    have:=ai t (.inl ht);rwa[Nat.min_self]at this
   have au:=ze ao;have aJ:=zj (o:=o) hS H.hx;rw[hF]at aJ;unfold wpOpIn;simp only[ho];rw[if_pos (by simp[Region.wanted,H.hg])];refine(aJ κ L a w h.bw au).wpIn fun v w' ⟨L',hT,bf,hv⟩=>?_;have aB:∀d,o.dst=some d->d <n:=fun d hd=>jD ag (Array.mem_toList_iff.2 (Array.mem_of_getElem? ho)) hd;refine RX hS hok ag H hK I L' _ _ _ bd ?_ ⟨?_,?_,?_,aG,?_,?_,bf,fun k ok t hk hd al=>?_,fun t ht=>?_,fun k ok hk al e he aV=>?_⟩
   ·rw[Array.getD_eq_getD_getElem?,Array.getElem?_setIfInBounds_self_of_lt (by rw[h.hs];exact u)];rfl
   ·rw[put_defers];exact h.hd.tr h.bw hT
   ·rw[bY,h.hn]
   ·rw[Array.size_setIfInBounds];exact h.hs
   ·exact xj (by rw[h.hs];exact u) fun e he aq bl=>D e (hok.eff i H.me e he u (by omega))
   ·intro e he h1 h2;have:=H.last e he h2;omega
   ·by_cases ab:k=i
    ·subst ab;rw[ho]at hk;cases hk;rw[j5 (by omega),H.hE,hd,fE (by rw[h.hn];exact aB t hd)];show SR _ _ _ (c9 _ t x t) v
     rw[iA];exact hv
    ·rw[ce (hok.dst i o k ok t ho hk ab hd)];rw[getD_set_ne true (Ne.symm ab)]at al;have bh:=(Array.getElem?_eq_some_iff.1 hk).1
     have bz:k <i:=by
      rcases Nat.lt_or_ge k i with h1|h1
      ·exact h1
      ·have:=h.jy (ns (H.behind k (by omega) bh)) fun o' an=>h.dm k o' an al;rw[hl]at this;cases this
     have h1:=h.done k ok t hk hd al;rw[Nat.min_eq_left (show k+1<=i by omega)]at h1;rw[n8 (by omega)];exact hT.env h1
   ·have a8:o.dst≠some t:=fun hd=>by
     have aq:i <listed.size:=by rw[h.hs];exact u
     have:=ht i o ho hd;rw[Array.getD_eq_getD_getElem?,Array.getElem?_setIfInBounds_self_of_lt aq]at this;cases this
    rw[ce a8,n8 (Nat.zero_le _)]
    have h1:=h.rest t fun k ok hk hd=>by
     have ab:k≠i:=fun e=>by subst e;rw[ho]at hk;cases hk;exact a8 hd
     have:=ht k ok hk hd;rw[getD_set_ne true (Ne.symm ab)]at this;exact this
    rw[Nat.min_eq_left (Nat.zero_le _)]at h1;exact hT.env h1
   ·by_cases ab:k=i
    ·subst ab;rw[ho]at hk;cases hk;exact getD_set_true (J e he aV)
    ·rw[getD_set_ne true (Ne.symm ab)]at al;exact getD_set_true (h.dm k ok hk al e he aV)
  ·-- behind it in the text: it waits for it
   have:=D m (ns (H.behind i Z u));rw[ad]at this;cases this
def OJ{rd:Option Nat}{dn:Nat}(hS:eK g.P γ C)(hok:qQ ops effs)(z:iI n ops.toList=true){env env':Env}{fr fr':Fr}(he:pW g C m effs ops env fr=some (env',fr')){Q:Exit->Act->World->Prop}
  (hK:∀L a w,Marks κ w a.defers->a.tmps.size=n->aw γ κ fr' L w->(∀t,SR (MA κ.M fr' L) L w (env' t) (a.tmps.getD t undef))->Q .normal a w)(hd:Marks κ w a.defers)(hn:a.tmps.size=n)(J:aw γ κ fr L w)(U:∀t,SR (MA κ.M fr L) L w (env t) (a.tmps.getD t undef)):wpAnyIn (Fw rd) dn g.P .any ops Q ops.size (Array.replicate ops.size false) a w:=by
 unfold pW at he;split at he
 ·cases he
 rename_i e1 r1 G;split at he
 ·cases he
 rename_i o l u;split at he
 ·cases he
 rename_i hg;split at he
 ·cases he
 rename_i x r2 ks hx;split at he
 ·rename_i D
  have ab:m <ops.size:=by
   rcases Nat.lt_or_ge m ops.size with h|h
   ·exact h
   ·rw[List.drop_eq_nil_of_le (by simpa using h)]at u;cases u
  have kH:ops[m]?=some o:=by
   have:=congrArg (·[0]?) u;simpa using this
  have hl:∀i:Nat,l[i]?=ops[m+1+i]?:=fun i=>by
   have h1:=congrArg (·[i+1]?) u;simp only[List.getElem?_drop,List.getElem?_cons_succ,Array.getElem?_toList]at h1;rw[<- h1,show m+1+i=m+(i+1) by omega]
  have V:l.length=ops.size - (m+1):=by
   have:=congrArg List.length u;simp at this;omega
  obtain⟨E1,F1,a1,a2,a3,a4,a5⟩:=ue (ops.toList.take m) 0 env fr G;obtain⟨E2,F2,b1,b2,b3,b4,b5⟩:=ue l (m+1) _ _ he;have Z:(ops.toList.take m).length=m:=by simp;omega
  rw[Z]at a4 a5;rw[V]at b4 b5;obtain⟨k1,k2,k3,k4,k5⟩:=LX D;have I:∀{α:Type} (f h:Nat->α) (i:Nat),i<=m->(if i<=m then f i else h (i - (m+1)))=f i:=fun f h i y=>if_pos y;have eR:∀{α:Type} (f h:Nat->α) (i:Nat),m <i->(if i<=m then f i else h (i - (m+1)))=h (i - (m+1)):=fun f h i y=>if_neg (by omega)
  have H:j6 g C ops effs (fun i=>if i<=m then E1 i else E2 (i - (m+1))) (fun i=>if i<=m then F1 i else F2 (i - (m+1))) m o x ks:=by
   refine⟨⟨by omega,fun i oi y v=>?_⟩,fun i oi y v=>?_,kH,hg,?_,?_,k1,k2,k3,k4,?_⟩
   ·simp only[I _ _ i (by omega),I _ _ (i+1) (by omega)];have:=a3 i oi (by rw[List.getElem?_take,if_pos y,Array.getElem?_toList];exact v);rwa[Nat.zero_add]at this
   ·simp only[eR _ _ i y,eR _ _ (i+1) (by omega)];have:=b3 (i - (m+1)) oi (by rw[hl,show m+1+(i - (m+1))=i by omega];exact v);rwa[show m+1+(i - (m+1))=i by omega,show i - (m+1)+1=i+1 - (m+1) by omega]at this
   ·simp only[if_pos (Nat.le_refl m),if_neg (show¬m+1<=m by omega),Nat.sub_self,a4,a5,b2];exact hx
   ·simp only[if_pos (Nat.le_refl m),if_neg (show¬m+1<=m by omega),Nat.sub_self,a4,b1]
   ·simp only[if_pos (Nat.le_refl m),a4,a5];exact k5
  refine RW (n:=n) (κ:=κ) hS hok z H (fun L a w hd hn J U=>?_) _ 0 L _ a w ?_ ?_ (dl.start hd hn ?_ fun t=>?_)
  ·simp only[if_neg (show¬ops.size<=m by omega),b4,b5]at J U;exact hK L a w hd hn J U
  ·unfold eW;exact Nat.le_trans (List.countP_le_length) (by simp)
  ·rw[Array.getD_eq_getD_getElem?,Array.getElem?_replicate,if_pos ab];rfl
  ·simp only[I _ _ 0 (Nat.zero_le _),a2];exact J
  ·simp only[Nat.min_eq_left (Nat.zero_le m),I _ _ 0 (Nat.zero_le _),a1,a2];exact U t
 ·cases he
end
section
variable {γ:Glob} {κ:Ctx} {fr:Fr} {L:Ls} {w:World}
def FX(G:aw γ κ fr L w){i:Nat}{v:Value}{D:Lb}(I:L i=some v)(hb:fr[i]?=some D)(z:D.ro=true):∀b,Bk v b->MA κ.M fr L b:=fun b y=>
 ⟨(G.new i v b D I y hb).2.1,fun⟨j,u,J,h1,h2,h3,h4⟩=>by
  have:=G.dis j i u v b h1 I h2 y;subst this;rw[hb]at h3;cases h3;rw[z]at h4;cases h4⟩
mutual
theorem Bt(z:aw γ κ fr L w):∀(s:SV) (v:Value),SR (MA κ.M fr L) L w s v->SR (MA κ.M fr L) L w (fp fr s) v
 | .ls i,v,h=>by
  rw[fp];split
  ·rename_i ab sz U Z;obtain⟨V,_⟩:=kP h;exact .t _ _ (w7 z (fun _ h=>h) Z V fun b J=>FX z V Z rfl b (.one J))
  ·exact h
 | .agg y,v,h=>by
  rw[fp]
  cases h with
  |agg _ us hl hr=>
   obtain⟨D,G⟩:=xX z y us hr;split
   ·rename_i xs hx;obtain⟨h1,h2⟩:=r6 (A:=MA κ.M fr L) (L:=L) (w:=w) hx;refine .t _ _ (.agg _ us (by rw[hl,<- D,h1]) fun j x u I hu=>?_);obtain⟨s,hs⟩:=aj (xs:=l_ fr y) (k:=j) (by rw[h1];exact aC I);exact h2 j s x u hs I (G j s u hs hu)
   ·exact .agg _ us (by rw[hl,D]) G
 | .aJ y,v,h=>by
  rw[fp]
  cases h with
  |aJ _ us hl hr=>
   obtain⟨D,G⟩:=xX z y us hr;exact .aJ _ us (by rw[hl,D]) G
 | .fn f nf y,v,h=>by
  rw[fp]
  cases h with
  |fn _ _ fs us hl hr=>
   obtain⟨D,G⟩:=xX z y (fs++us) hr;exact Dk (.fn _ _ fs us (by rw[hl,D]) G)
 | .aV s,v,h=>by
  rw[fp]
  cases h with
  |aV _ _ h=>exact Bt z s v h
 | .t x,v,h=>by rw[fp]<;>first|exact h|(intros;contradiction)
 | .nil,v,h=>by rw[fp]<;>first|exact h|(intros;contradiction)
 | .tc U,v,h=>by rw[fp]<;>first|exact h|(intros;contradiction)
 | .nn U,v,h=>by rw[fp]<;>first|exact h|(intros;contradiction)
 | .lp i j,v,h=>by rw[fp]<;>first|exact h|(intros;contradiction)
 | .lv i sz a n,v,h=>by rw[fp]<;>first|exact h|(intros;contradiction)
 | .le i sz k j,v,h=>by rw[fp]<;>first|exact h|(intros;contradiction)
 | .lo i p,v,h=>by rw[fp]<;>first|exact h|(intros;contradiction)
 | .lr i p k,v,h=>by rw[fp]<;>first|exact h|(intros;contradiction)
 | .lm i,v,h=>by rw[fp]<;>first|exact h|(intros;contradiction)
 | .no,v,h=>by rw[fp]<;>first|exact h|(intros;contradiction)
 | .dead,v,h=>by rw[fp]<;>first|exact h|(intros;contradiction)
theorem xX(z:aw γ κ fr L w):∀(cs:List SV) (us:Array Value),(∀(j:Nat) (x:SV) (u:Value),cs[j]?=some x->us[j]?=some u->SR (MA κ.M fr L) L w x u)->(l_ fr cs).length=cs.length/\∀(j:Nat) (x:SV) (u:Value),(l_ fr cs)[j]?=some x->us[j]?=some u->SR (MA κ.M fr L) L w x u
 |[],us,_=>⟨by rw[l_],fun j x u y _=>by rw[l_]at y;simp at y⟩
 |c::cs,us,D=>by
  obtain⟨G,I⟩:=xX z cs (us.extract 1 us.size) fun j x u y v=>by
   rw[Array.getElem?_extract]at v;split at v
   ·rw[Nat.add_comm]at v;exact D (j+1) x u (by simpa using y) v
   ·cases v
  rw[l_];refine⟨by simp[G],fun j x u y v=>?_⟩
  cases j with
  |zero=>cases y;exact Bt z c u (D 0 c u rfl v)
  |succ j=>
   refine I j x u (by simpa using y) ?_;have J:=(Array.getElem?_eq_some_iff.1 v).1;rw[Array.getElem?_extract,if_pos (by omega),Nat.add_comm];exact v
end
theorem FW:∀{l:List Nat},wX fr l=true->∀i∈l,∃b,fr[i]?=some b/\b.ro=true
 |[],_,i,u=>by cases u
 |k::r,h,i,u=>by
  unfold wX at h;split at h
  ·rename_i b v;rw[Bool.and_eq_true]at h;rcases List.mem_cons.1 u with rfl|u
   ·exact⟨b,v,h.1⟩
   ·exact FW h.2 i u
  ·cases h
def OC(z:aw γ κ fr L w)(m:Nat){c:SV}{v:Value}(h:SR (MA κ.M fr L) L w c v):SR (MA κ.M fr L) L w (AH m fr c) v:=by
 unfold AH;split
 ·exact h
 ·split
  ·rename_i x J y;refine .t _ _ ((nW z (A:=MA κ.M fr L) (fun _ h=>h) deep).1 c x v J (fun i G u b I D=>?_) h);obtain⟨U,h1,h2⟩:=FW y i G;exact FX z I h1 h2 b D
  ·exact h
def AJ(m:Nat)(b:Lb):(jn m fr b).ro=b.ro:=by cases b <;>rfl
def OB(m:Nat)(b:Lb):(jn m fr b).tch=b.tch:=by cases b <;>rfl
def aw.OD(z:aw γ κ fr L w)(m:Nat):aw γ κ (fr.map (jn m fr)) L w/\∀b,MA κ.M fr L b↔MA κ.M (fr.map (jn m fr)) L b:=by
 have G:∀(i:Nat) (y:Lb),(fr.map (jn m fr))[i]?=some y->∃D,fr[i]?=some D/\y=jn m fr D:=fun i y h=>by
  rw[List.getElem?_map]at h
  cases hf:fr[i]? with
  |none=>rw[hf]at h;cases h
  |some D=>rw[hf]at h;cases h;exact⟨D,rfl,rfl⟩
 have ad:∀b,Own fr L b↔Own (fr.map (jn m fr)) L b:=fun b=>by
  constructor
  ·rintro⟨i,v,D,h1,h2,h3,h4⟩;exact⟨i,v,jn m fr D,h1,h2,by rw[List.getElem?_map,h3];rfl,by rw[AJ];exact h4⟩
  ·rintro⟨i,v,y,h1,h2,h3,h4⟩;obtain⟨D,I,rfl⟩:=G i y h3;rw[AJ]at h4;exact⟨i,v,D,h1,h2,I,h4⟩
 have Z:∀b,MA κ.M fr L b↔MA κ.M (fr.map (jn m fr)) L b:=fun b=>by unfold MA;rw[ad b]
 have ag:∀{x:SV} {v:Value},SR (MA κ.M fr L) L w x v->SR (MA κ.M (fr.map (jn m fr)) L) L w x v:=fun h=>SR.on (Nat.le_refl _) (fun b _ U=>⟨(Z b).1 U,rfl⟩) (fun _ _ h=>h) h;have ai:∀{x:AV} {v:Value},VR (MA κ.M fr L) w x v->VR (MA κ.M (fr.map (jn m fr)) L) w x v:=fun h=>VR.on (Nat.le_refl _) (fun b _ U=>⟨(Z b).1 U,rfl⟩) h;refine⟨⟨z.glob,z.gn,z.gx,z.fresh,z.os,z.tape,z.output,z.size,z.kept,fun i v h=>by rw[List.length_map];exact z.lim i v h,fun i v b y h1 h2 h3=>?_,z.dis,fun j v h=>?_,fun i y h=>?_⟩,Z⟩
 ·obtain⟨D,I,rfl⟩:=G i y h3;rw[AJ];exact z.new i v b D h1 h2 I
 ·obtain⟨D,h1,h2⟩:=z.hand j v h;exact⟨jn m fr D,by rw[List.getElem?_map,h1];rfl,fun ht=>h2 (by rw[OB]at ht;exact ht)⟩
 ·obtain⟨D,I,rfl⟩:=G i y h;have U:=z.blk i D I
  cases D with
  |box ro T cs=>
   obtain⟨g,us,h1,h2,h3,h4⟩:=U;refine⟨g,us,h1,h2,by rw[List.length_map];exact h3,fun j x u J hu=>?_⟩;rw[List.getElem?_map]at J
   cases hc:cs[j]? with
   |none=>rw[hc]at J;cases J
   |some c=>rw[hc]at J;cases J;exact ag (OC z m (h4 j c u hc hu))
  |row ro al sz es=>
   obtain⟨T,v,us,h1,h2,h3,h4,I⟩:=U
   exact⟨T,v,us,h1,h2,h3,h4,fun k j cs x hk hj=>by
    obtain⟨u,e1,e2⟩:=I k j cs x hk hj;exact⟨u,e1,ai e2⟩⟩
  |map ro ks vs=>
   obtain⟨r,ab,V,h1,h2,h3,h4,I,h6,h7⟩:=U;exact⟨r,ab,V,h1,h2,h3,h4,fun j x u J hu=>ai (I j x u J hu),fun j x u J hu=>ag (h6 j x u J hu),h7⟩
  |own ro x=>exact U
theorem td:∀(l u:List Nat),∃r,cE u l=u++r
 |[],u=>⟨[],by unfold cE;simp⟩
 |i::l,u=>by
  unfold cE;split
  ·exact td l u
  ·obtain⟨r,h⟩:=td l (u++[i]);exact⟨i::r,by rw[h];simp⟩
theorem yO:∀(l u:List Nat) (i:Nat),i∈u\/i∈l->i∈cE u l
 |[],u,i,h=>by unfold cE;simpa using h
 |k::l,u,i,h=>by
  unfold cE;split
  ·rename_i v;refine yO l u i ?_;rcases h with h|h
   ·exact .inl h
   ·rcases List.mem_cons.1 h with rfl|h
    ·exact .inl (ry.1 v)
    ·exact .inr h
  ·refine yO l _ i ?_;rcases h with h|h
   ·exact .inl (by simp[h])
   ·rcases List.mem_cons.1 h with rfl|h
    ·exact .inl (by simp)
    ·exact .inr h
theorem yb:∀(m:Nat) (bs:Fr) (j:Nat),(gX m bs)[j]?=(bs[j]?).map fun b=>if j <m then b else cS b
 |_,[],j=>by simp[gX]
 |0,b::bs,0=>by simp[gX]
 |0,b::bs,j+1=>by
  have:=yb 0 bs j;simp[gX,this]
 |m+1,b::bs,0=>by simp[gX]
 |m+1,b::bs,j+1=>by
  have:=yb m bs j;simp[gX,this]
theorem Dw{f:Lb->Lb}:∀{l:List Nat} {bs:Fr},dL fr l=some bs->dL (fr.map f) l=some (bs.map f)
 |[],bs,h=>by unfold dL at h;cases h;rfl
 |k::r,bs,h=>by
  unfold dL at h;split at h
  ·cases h
  ·rename_i b u;split at h
   ·cases h
   ·rename_i l v;cases h;unfold dL;rw[List.getElem?_map,u];simp only[Option.map_some,Dw v,List.map_cons]
theorem CD(fr:Fr):∀(n:Nat) (l:List Nat),∃r,close fr n l=l++r
 |0,l=>⟨[],by simp[close]⟩
 |n+1,l=>by
  unfold close;obtain⟨r,h1⟩:=td (wT fr l) l;obtain⟨q,h2⟩:=CD fr n (cE l (wT fr l));exact⟨r++q,by rw[h2,h1,List.append_assoc]⟩
def Fh{F:Fr}(U:aw γ κ F L w){m:Nat}(hm:∀j v,κ.L j=some v->j <m){r1:SV}{v:Value}{u:List Nat}{B:Fr}(al:u.Nodup)(ai:∀j,j <m->u[j]?=some j)(ab:dL F u=some B)(an:SR (MA κ.M F L) L w r1 v):
  ∃L',aw γ κ (gX m (B.map (Lb.sub (bc u)))) L' w/\SR (MA κ.M (gX m (B.map (Lb.sub (bc u)))) L') L' w (r1.sub (bc u)) v:=by
 obtain⟨Z,V⟩:=vT ab
 have ad:∀(j:Nat) (z:Lb),(gX m (B.map (Lb.sub (bc u))))[j]?=some z->∃(i:Nat) (D:Lb),u[j]?=some i/\F[i]?=some D/\z=if j <m then D.sub (bc u)else cS (D.sub (bc u)):=fun j z y=>by
  rw[yb,List.getElem?_map]at y
  cases I:B[j]? with
  |none=>rw[I]at y;cases y
  |some D=>
   rw[I]at y;cases y;obtain⟨i,hi⟩:=aj (xs:=u) (k:=j) (by rw[<- Z];exact aC I);obtain⟨b,h1,h2⟩:=V j i hi;rw[I]at h2;cases h2;exact⟨i,D,hi,h1,rfl⟩
 have G:(gX m (B.map (Lb.sub (bc u)))).length=u.length:=by
  rw[<- Z]
  have:∀(m:Nat) (bs:Fr),(gX m bs).length=bs.length:=fun m bs=>by
   induction bs generalizing m with
   |nil=>cases m <;>rfl
   |cons b bs ih=>cases m <;>simp[gX,ih]
  rw[this,List.length_map]
 obtain⟨h1,h2,h3⟩:=U.uk (gX m (B.map (Lb.sub (bc u)))) (fun j=>u.getD j 0) (bc u) (fun j k y hk e=>by
   rw[G]at y hk;have J:u[j]?=some (u.getD j 0):=by rw[List.getD_eq_getElem?_getD,List.getElem?_eq_getElem y];rfl
   have ek:u[k]?=some (u.getD k 0):=by rw[List.getD_eq_getElem?_getD,List.getElem?_eq_getElem hk];rfl
   rw[e]at J;exact wI al J ek) (fun i j v hi hv=>by
   have:=vX hi;exact⟨by rw[G];exact aC this,by rw[List.getD_eq_getElem?_getD,this];rfl⟩) (fun j z y=>by
   obtain⟨i,D,e1,e2,rfl⟩:=ad j z y;refine⟨D,by rw[List.getD_eq_getElem?_getD,e1];exact e2,?_⟩;split
   ·exact oh _ _
   ·exact yB (oh _ _)) (fun j v y=>by
   have ag:=hm j v y;have J:u[j]?=some j:=ai j ag;obtain⟨D,e1,_⟩:=U.hand j v y;obtain⟨ao,e2,e3⟩:=V j j J;rw[e1]at e2;cases e2;refine⟨D,D.sub (bc u),e1,by rw[yb,List.getElem?_map,e3];simp[ag],by rw[List.getD_eq_getElem?_getD,J];rfl,fun ht=>by rw[Lb.xA]at ht;exact ht⟩)
 exact⟨_,h1,SR.sub _ (Nat.le_refl _) (fun b _ I=>⟨h2 b I,rfl⟩) h3 an⟩
def zq(hC:aw γ κ fr L w){m:Nat}(hm:∀j v,κ.L j=some v->j <m){r0 r:SV}{fr':Fr}{v:Value}(h:fin m r0 fr=some (r,fr'))(hv:SR (MA κ.M fr L) L w r0 v):∃L',aw γ κ fr' L' w/\SR (MA κ.M fr' L') L' w r v:=by
 unfold fin at h;simp only at h;have z:=Bt hC _ v (qK hv);generalize fp fr (un r0)=r1 at h z;split at h
 ·rename_i u;cases h
  have au:m=0:=by
   obtain⟨q,Z⟩:=td r.refs (List.range m);rw[Z,List.append_eq_nil_iff,List.range_eq_nil]at u;exact u.1
  have G:r.refs=[]:=by
   cases hx:r.refs with
   |nil=>rfl
   |cons i l=>
    have:=yO r.refs (List.range m) i (.inr (by rw[hx];simp));rw[u]at this;cases this
  obtain⟨h1,h2,h3⟩:=hC.uk [] (fun j=>j) (fun _=>none) (fun j k I=>by simp at I) (fun i j v h=>by cases h) (fun j lb h=>by simp at h) (fun j v I=>by have:=hm j v I;omega);exact⟨_,h1,SR.ES (fun b _ hb=>⟨h2 b hb,rfl⟩) (Nat.le_refl _) z G⟩
 ·split at h
  ·cases h
  ·rename_i bs an;have V:(cE (List.range m) r1.refs).Nodup:=ta _ _ List.nodup_range
   have y:∀j,j <m->(cE (List.range m) r1.refs)[j]?=some j:=fun j U=>by
    obtain⟨q,Z⟩:=td r1.refs (List.range m);rw[Z,List.getElem?_append_left (by simpa using U),List.getElem?_range U]
   generalize cE (List.range m) r1.refs=D at*
   split at h
   ·split at h
    ·cases h
    ·rename_i ao al;split at h
     ·cases h
     ·cases h;refine Fh hC hm (yJ fr 4 D V) (fun j I=>?_) al z;obtain⟨q,Z⟩:=CD fr 4 D;rw[Z,List.getElem?_append_left (aC (y j I))];exact y j I
   ·cases h;obtain⟨ab,aq,ag⟩:=hC.nE (inner m fr D);obtain⟨ad,ai⟩:=ab.OD m;have J:=Dw (f:=jn m (freeze fr (inner m fr D))) an;exact Fh ad hm V y J (SR.on (Nat.le_refl _) (fun b _ hb=>⟨(ai b).1 (ag b hb),rfl⟩) (fun _ _ h=>h) z)
end
def dR:Code->Bool
 | .seq a b=>dR a&&dR b
 | .cond _ a b=>dR a&&dR b
 | .block _ b=>dR b
 | .loop b=>dR b
 | .rangeFunc ..=>false
 |_=>true
def uU(γ:Glob)(P:Program)(G:Nat)(I:Array Value)(T:AV->Value->Prop)(yss:List (List AV))(wh:Bool):Prop:=
 gN P G/\∀(l:Nat) (J:List (List AV)->(Nat->Prop)->World->Prop) (z:World->Prop) (A:Nat->Prop) (W:World),
  (∀r A X Y,J r A X->Below X.heap.size X Y->J r A Y)->(∀X Y,z X->Below X.heap.size X Y->z Y)->
  (∀r A X,J r A X->aw γ ⟨A,fun _=>False,fun _=>False,X,fun _=>none⟩ [] (fun _=>none) X/\∀x v,T x v->VR A X x v)->
  (wh=false->∀A X,¬J [] A X)->
  (∀(y:List AV) (r:List (List AV)) (A:Nat->Prop) (D:Array Value) (X:World),J (y::r) A X->D.size=y.length->(∀(j:Nat) (x:AV) (u:Value),y[j]?=some x->D[j]?=some u->VR A X x u)->
   ∀m,YieldAt (Fw none) m P l D X fun e Y=>(e=.returned (.bool true)/\∃A',J r A' Y)\/(e=.returned (.bool false)/\z Y))->
  J yss A W->
  ∀m,CallsIn (Fw none) m P G (#[.func (.yield l) #[] #[]]++I) W fun e Y=>(∃v,e=.returned v)/\((wh=true/\∃A',J [] A' Y)\/z Y)
def uQ(xs:List AV)(v:Array Value)(x:AV)(u:Value):Prop:=∃j:Nat,xs[j]?=some x/\v[j]?=some u
def dz(g:Cfg)(f n:Nat):Code->Bool
 | .region id ops u=>iI n ops.toList&&(match u with
  |true=>(match pQ (g.eff f id)with
   |0=>yU ops (g.eff f id)
   |1=>vw ops (g.eff f id)
   |4=>vu ops (rB (g.eff f id))
   |5=>vw ops (rB (g.eff f id))
   |_=>true)
  |false=>true)
 | .seq a b=>dz g f n a&&dz g f n b
 | .cond _ a b=>dz g f n a&&dz g f n b
 | .block _ b=>dz g f n b
 | .loop b=>dz g f n b
 | .rangeFunc _ ps asg b=>dz g f n asg&&dz g f n b&&dR asg&&dR b&&ps.toList.all fun p=>Nat.blt p n
 |_=>true
def qO(g:Cfg)(f:Nat):Bool:=match g.P.funcs[f]? with
 |none=>false
 |some fn=>match fn.body with
  |none=>false
  |some c=>dz g f fn.ntmps c&&!(fn.name== "runtime.NumGoroutine")&&Nat.ble fn.results.size 4
structure Wf (g:Cfg) (γ:Glob):Prop where
 seq:∀(gf:Nat) (xs:List AV) (yss:List (List AV)) (wh:Bool),g.seq gf xs=some (yss,wh)->∀(lb:Array Value),lb.size=xs.length->uU γ g.P gf lb (uQ xs lb) yss wh:=by intro _ _ _ _ h;cases h
 mixed:g.P.follows .mixedOrders=true
 tA:∀f,g.ok f=true->qO g f=true
 ext:∀(f:Nat) (xs:List AV) (r:SV) (fr':Fr),g.ext f xs=some (r,fr')->gN g.P f/\∀(κ:Ctx) (w:World) (us:Array Value),aw γ κ [] κ.L w->κ.W=w->us.size=xs.length->(∀(j:Nat) (x:AV) (u:Value),xs[j]?=some x->us[j]?=some u->VR (MA κ.M [] κ.L) w x u)->
  Calls g.P f us w fun e w'=>∃v L',e=.returned v/\aw γ κ fr' L' w'/\SR (MA κ.M fr' L') L' w' r v
 exh:eK g.P γ g.exh:=by intro _ _ _ _ _ h;cases h
def Out.xY:Out->Exit
 | .normal=>.normal
 | .exit id=>.exit id
 | .ret=>.ret
def At(γ:Glob)(κ:Ctx)(n:Nat)(env:Env)(fr:Fr)(a:Act)(w:World):Prop:=Marks κ w a.defers/\a.tmps.size=n/\∃L,aw γ κ fr L w/\∀t,SR (MA κ.M fr L) L w (env t) (a.tmps.getD t undef)
def mn(γ:Glob)(κ:Ctx)(n:Nat)(o:Out)(env:Env)(fr:Fr):Exit->Act->World->Prop:=fun e a w=>e=o.xY/\At γ κ n env fr a w
def sJ(g:Cfg)(γ:Glob)(Lp:LoopF):Prop:=∀(f:Nat) (b:Code) (env:Env) (fr:Fr) (o:Out) (u:Env) (fr':Fr),Lp f b env fr=some (o,u,fr')->∀n,dz g f n b=true->∀(κ:Ctx) rd dn a w,((rd=none/\¬κ.H κ.W.heap.size)\/dR b=true)->At γ κ n env fr a w->(Code.loop b).wpIn (Fw rd) dn g.P (mn γ κ n o u fr') a w
section
variable {g:Cfg} {γ:Glob} {κ:Ctx} {C:CallF} {Lp:LoopF} {n:Nat}
def NL{fr:Fr}{L:Ls}{i:Nat}{D lb':Lb}(hi:fr[i]?=some D)(z:lb'.ro=D.ro)(b:Nat):Own (fr.set i lb') L b↔Own fr L b:=by
 have y:=aC hi;constructor
 ·rintro⟨j,v,x,h1,h2,h3,h4⟩;by_cases u:i=j
  ·subst u;rw[List.getElem?_set_self y]at h3;cases h3;exact⟨i,v,D,h1,h2,hi,z ▸ h4⟩
  ·rw[List.getElem?_set_ne u]at h3;exact⟨j,v,x,h1,h2,h3,h4⟩
 ·rintro⟨j,v,x,h1,h2,h3,h4⟩;by_cases u:i=j
  ·subst u;rw[hi]at h3;cases h3;exact⟨i,v,lb',h1,h2,List.getElem?_set_self y,z.trans h4⟩
  ·exact⟨j,v,x,h1,h2,by rw[List.getElem?_set_ne u];exact h3,h4⟩
def aw.ON{fr:Fr}{L:Ls}{w:World}(u:aw γ κ fr L w){i:Nat}{V lb':Lb}(hi:fr[i]?=some V)(I:lb'.ro=V.ro)(ht:lb'.tch=V.tch)(hb:j7 (MA κ.M fr L) L w i lb'):aw γ κ (fr.set i lb') L w/\MA κ.M (fr.set i lb') L=MA κ.M fr L:=by
 have D:=aC hi
 have hM:MA κ.M (fr.set i lb') L=MA κ.M fr L:=by
  funext b;unfold MA;rw[propext (NL hi I b)]
 have Z:∀{j:Nat} {x:Lb},(fr.set i lb')[j]?=some x->∃y:Lb,fr[j]?=some y/\x.ro=y.ro/\x.tch=y.tch:=fun{j x} h=>by
  by_cases G:i=j
  ·subst G;rw[List.getElem?_set_self D]at h;cases h;exact⟨V,hi,I,ht⟩
  ·rw[List.getElem?_set_ne G]at h;exact⟨x,h,rfl,rfl⟩
 refine⟨?_,hM⟩
 exact{
  glob:=u.glob
  gn:=u.gn
  gx:=u.gx
  fresh:=u.fresh
  os:=u.os
  tape:=u.tape
  output:=u.output
  size:=u.size
  kept:=u.kept
  lim:=fun j v G=>by rw[List.length_set];exact u.lim j v G
  new:=fun j v b x h1 h2 h3=>by
   obtain⟨y,J,hr,_⟩:=Z h3;obtain⟨q1,q2,q3,q4⟩:=u.new j v b y h1 h2 J;exact⟨q1,q2,q3,fun h=>q4 (hr ▸ h)⟩
  dis:=u.dis
  hand:=fun j v G=>by
   obtain⟨y,J,hl⟩:=u.hand j v G;by_cases z:i=j
   ·subst z;rw[hi]at J;cases J;exact⟨lb',List.getElem?_set_self D,fun h=>hl (ht ▸ h)⟩
   ·exact⟨y,by rw[List.getElem?_set_ne z];exact J,hl⟩
  blk:=fun j x U=>by
   rw[hM];by_cases z:i=j
   ·subst z;rw[List.getElem?_set_self D]at U;cases U;exact hb
   ·rw[List.getElem?_set_ne z]at U;exact u.blk j x U}
def EN{fr:Fr}{s:SV}{i:Nat}{T:TypeId}(h:wG fr s=some (i,T)):fr[i]?=some (.box false T [.nil]):=by
 unfold wG at h;split at h
 ·split at h
  ·rename_i u;cases h;exact u
  ·cases h
 ·cases h
theorem EO{fr:Fr}{i:Nat}{T:TypeId}:∀{l:List SV},wH fr l=some (i,T)->fr[i]?=some (.box false T [.nil])
 |[],h=>by cases h
 |s::r,h=>by
  unfold wH at h;split at h
  ·rename_i x u;cases h;exact EN u
  ·exact EO h
def Nn{fr:Fr}{s:SV}{i:Nat}{T:TypeId}(h:Af fr s=some (i,T)):fr[i]?=some (.box false T [.nil]):=by
 unfold Af at h;split at h
 ·exact EO h
 ·exact EN h
theorem At.own{env:Env}{fr:Fr}{a:Act}{w:World}:∀(sl:List (Nat×Nat)) (env:Env) (fr:Fr),At γ κ n env fr a w->At γ κ n (gS sl env fr).1 (gS sl env fr).2 a w
 |[],env,fr,h=>h
 |(t,sz)::r,env,fr,h=>by
  have al:(∀(L:Ls),SR (MA κ.M fr L) L w (env t) (a.tmps.getD t undef)->∃q,a.tmps.getD t undef=.slice q 0 0)->At γ κ n (c9 env t (.ls fr.length)) (fr++[.row false false sz []]) a w:=fun hq=>by
   obtain⟨h1,h2,L,y,I⟩:=h;obtain⟨q,hq⟩:=hq L (I t);obtain⟨v,hT⟩:=y.push (Below.refl _ _) (.row false false sz []) (.slice q 0 0) (fun b hb=>by cases q <;>cases hb) fun hT=>⟨0,_,[],ck,.inl ⟨rfl,rfl,q,rfl⟩,by rw[List.length_nil];omega,fun k cs V=>by simp at V,fun k j cs x V _=>by simp at V⟩;refine⟨h1,h2,_,v,fun u=>?_⟩;by_cases G:u=t
   ·subst G;rw[iA,hq];exact .ls _ _ ck rfl
   ·rw[qM G];exact hT.sr (I u)
  unfold gS;split
  ·split
   ·rename_i x hx;refine At.own (env:=env) (fr:=fr) r _ _ ?_;obtain⟨h1,h2,L,y,I⟩:=h;obtain⟨ao,aD,av⟩:=y.nE (nR fr deep (un (env t)));refine⟨h1,h2,L,ao,fun u=>?_⟩;by_cases G:u=t
    ·subst G;rw[iA];exact .t _ _ ((nW y av deep).1 _ x _ hx (oH y) (qK (I u)))
    ·rw[qM G];exact aD.sr (I u)
   ·exact At.own (env:=env) (fr:=fr) r _ _ h
  split
  ·rename_i he;exact At.own (env:=env) (fr:=fr) r _ _ (al fun L hs=>by rw[he]at hs;generalize a.tmps.getD t undef=z at hs;cases hs;exact⟨none,rfl⟩)
  ·rename_i he;exact At.own (env:=env) (fr:=fr) r _ _ (al fun L hs=>by rw[he]at hs;generalize a.tmps.getD t undef=z at hs;cases hs with|tc _ q _=>exact⟨q,rfl⟩)
  ·split
   ·rename_i i T aJ;have J:=Nn aJ;refine At.own (env:=env) (fr:=fr) r _ _ ?_;obtain⟨h1,h2,L,y,I⟩:=h;obtain⟨g,Z,hL,hg,aR,aV⟩:=y.blk i _ J;have a1:Z.size=1:=aR;have ai:Z[0]?=some Z[0]:=Array.getElem?_eq_getElem (by omega);have h0:=aV 0 .nil Z[0] rfl ai
    have hv:Z[0]=.slice none 0 0:=by
     generalize Z[0]=z at h0;cases h0;rfl
    obtain⟨v,hT⟩:=y.push (Below.refl _ _) (.row false false sz []) (.slice none 0 0) (fun b hb=>by cases hb) fun hT=>⟨0,_,[],ck,.inl ⟨rfl,rfl,none,rfl⟩,by rw[List.length_nil];omega,fun k cs V=>by simp at V,fun k j cs x V _=>by simp at V⟩;have ad:=aC J;have D:(fr++[Lb.row false false sz []])[i]?=some (.box false T [.nil]):=by rw[List.getElem?_append_left ad];exact J
    have au:=v.blk i _ D;obtain⟨g',an,ab,U,ag,aX⟩:=au
    have aG:g'=g/\an=Z:=by
     have e1:=hT.sr (SR.lp i 0 g hL)
     cases e1 with
     |lp _ _ _ hq=>
      rw[ab]at hq;cases hq;rw[hg]at U;cases U;exact⟨rfl,rfl⟩
    obtain⟨rfl,rfl⟩:=aG
    obtain⟨aq,aB⟩:=v.ON D (lb':=.box false T [.ls fr.length]) rfl rfl ⟨g',an,ab,U,ag,fun j x u hx G=>by
     match j with
     |0=>
      cases hx;rw[ai]at G;cases G;rw[hv];exact .ls _ _ ck rfl
     |j+1=>simp at hx⟩
    have e:fr.set i (.box false T [.ls fr.length])++[Lb.row false false sz []]=(fr++[Lb.row false false sz []]).set i (.box false T [.ls fr.length]):=by
     rw[List.set_append_left _ _ ad]
    rw[e];refine⟨h1,h2,_,aq,fun u=>?_⟩;rw[aB];exact hT.sr (I u)
   ·exact At.own (env:=env) (fr:=fr) r _ _ h
theorem oT{A:Nat->Prop}{L:Ls}{w:World}{tm:Nat->Value}:∀(l:List (Nat×SV)),(∀p∈l,SR A L w p.2 (tm p.1))->∀t,SR A L w (di l t) (tm t)
 |[],_,t=>.dead _
 |(k,v)::r,h,t=>by
  unfold di;split
  ·rename_i y;obtain rfl:t=k:=by simpa using y
   exact h (t,v) (by simp)
  ·exact oT r (fun p u=>h p (by simp[u])) t
def Hu(h:Nat)(fr:Fr):Go.Proofs.YtjolgbkkocjpgaaGreatDoor.trim h (freeze fr ((List.range fr.length).filter (Nat.ble h)))=Go.Proofs.YtjolgbkkocjpgaaGreatDoor.trim h fr:=by
 unfold Go.Proofs.YtjolgbkkocjpgaaGreatDoor.trim;rw[rq];split
 ·rename_i u;rw[Nat.ble_eq]at u
  have:(List.range fr.length).filter (Nat.ble h)=[]:=by
   rw[List.filter_eq_nil_iff];intro i v;have:=List.mem_range.1 v;rw[Nat.ble_eq];omega
  rw[this];rfl
 ·congr 1;apply List.ext_getElem?;intro j;rw[List.getElem?_take,List.getElem?_take];split
  ·rename_i D;rw[tB]
   have:bS ((List.range fr.length).filter (Nat.ble h)) j=false:=by
    rw[fP];intro y;have:=(List.mem_filter.1 y).2;rw[Nat.ble_eq]at this;omega
   rw[this]
   cases fr[j]? with
   |none=>rfl
   |some z=>cases z <;>rfl
  ·rfl
def At.handed{env:Env}{fr:Fr}{a:Act}{w:World}(u:At γ κ n env fr a w):∀j v,κ.L j=some v->j <fr.length:=fun j v z=>by
 obtain⟨_,_,L,y,_⟩:=u;obtain⟨D,h1,_⟩:=y.hand j v z;exact aC h1
theorem At.head{lv:Option (List Nat)}{h:Nat}{env:Env}{fr:Fr}{a:Act}{w:World}(J:At γ κ n env fr a w)(hh:∀j v,κ.L j=some v->j <h):At γ κ n (head lv h env fr).1 (head lv h env fr).2 a w:=by
 unfold Go.Proofs.YtjolgbkkocjpgaaGreatDoor.head;split
 ·exact J
 ·rename_i l
  have hh:∀j v,κ.L j=some v->j <kG l h fr:=fun j v hj=>by
   unfold kG;split
   ·exact J.handed j v hj
   ·exact hh j v hj
  simp only;generalize kG l h fr=h at hh⊢;obtain⟨h1,h2,L,G,hV⟩:=J;obtain⟨U,z,V⟩:=G.nE ((List.range fr.length).filter (Nat.ble h));obtain⟨L',y,I⟩:=U.trim h hh;rw[Hu]at y I;refine⟨h1,h2,L',y,fun t=>oT (tm:=fun t=>a.tmps.getD t undef) _ (fun p hp=>?_) t⟩;obtain⟨k,_,rfl⟩:=List.mem_map.1 hp;have Z:=qK (hV k);show SR _ _ _ (oy fr h (un (env k))) _
  unfold oy;split
  ·exact I _ _ (z.sr Z)
  ·split
   ·rename_i x D hx
    have hv:=(nW G V deep).1 _ x _ hx (fun i hi u b hu hb=>by
     refine oH G i ?_ u b hu hb;have:=List.all_eq_true.1 D i hi;exact List.mem_filter.2 ⟨List.mem_range.2 (G.lim i u hu),this⟩) Z
    have:=I _ _ (SR.t x _ hv);rw[SV.sub]at this;exact this
   ·exact I _ _ (z.sr Z)
end
section
variable {γ:Glob} {κ:Ctx} {fr:Fr} {L:Ls} {w:World}
def Marks.below{w':World}{ds:List Deferred}(h:Marks κ w ds)(hb:Below w.heap.size w w'):Marks κ w' ds:=by
 obtain⟨⟨v,h1,h2,h3⟩,h4⟩:=h;exact⟨⟨v,h1,h2,fun D u=>⟨(h3 D u).1,(hb.block D (Array.getElem?_eq_some_iff.1 (h3 D u).2).1).trans (h3 D u).2⟩⟩,h4⟩
def Marks.put{l:Nat}{r:Loop}{o:Obj}{ds:List Deferred}(h:Marks κ w ds)(hl:w.heap[l]?=some (.loop r)):Marks κ (w.putObj l o) ds:=by
 obtain⟨⟨y,h1,h2,h3⟩,h4⟩:=h;refine⟨⟨y,h1,h2,fun D u=>⟨(h3 D u).1,?_⟩⟩,h4⟩;have v:D≠l:=fun e=>by subst e;rw[(h3 D u).2]at hl;cases hl
 exact(World.putObj_heap_other v).trans (h3 D u).2
def aw.FE(h:aw γ κ fr L w){W1 D:World}(hW:Lq γ.n κ.W W1)(hw:Lq γ.n w D)(hk:∀k,k <κ.W.heap.size->¬κ.X k->D.heap[k]?=W1.heap[k]?):aw γ ⟨κ.M,κ.X,κ.H,W1,κ.L⟩ fr L D where
 glob:=γ.stays _ _ h.glob fun k hk=>by
  rcases hw.blk k with h1|⟨J,_⟩
  ·exact h1
  ·omega
 gn:=by show γ.n<=W1.heap.size;rw[hW.size];exact h.gn
 gx:=fun b y=>by show _/\b <W1.heap.size;rw[hW.size];exact h.gx b y
 fresh:=fun b y=>h.fresh b (by have y:W1.heap.size<=b:=y;rw[hW.size]at y;exact y)
 os:=(hw.os.trans h.os).trans hW.os.symm
 tape:=(hw.tape.trans h.tape).trans hW.tape.symm
 output:=(hw.output.trans h.output).trans hW.output.symm
 size:=by show W1.heap.size<=_;rw[hW.size,hw.size];exact h.size
 kept:=fun k u I=>hk k (by have u:k <W1.heap.size:=u;rw[hW.size]at u;exact u) I
 lim:=h.lim
 new:=fun i v b z h1 h2 h3=>by
  show _/\_/\(W1.heap.size<=b\/_)/\(_->W1.heap.size<=b\/_)
  rw[hw.size,hW.size];exact h.new i v b z h1 h2 h3
 dis:=h.dis
 hand:=h.hand
 blk:=fun i z G=>(h.blk i z G).lq hw
theorem Gz{A:Nat->Prop}:∀(z:List Nat) (D:List AV) (us:List Value) (env:Env) (tm:Array Value),z.length=D.length->us.length=D.length->(∀p∈z,p <tm.size)->(∀t,SR A L w (env t) (tm.getD t undef))->(∀(j:Nat) (x:AV) (u:Value),D[j]?=some x->us[j]?=some u->VR A w x u)->
  ∀t,SR A L w (o4 z D env t) (((z.zip us).foldl (fun t (p,v)=>t.setIfInBounds p v) tm).getD t undef)
 |[],D,us,env,tm,_,_,_,h,_=>by unfold o4;simpa using h
 |p::z,[],us,env,tm,h1,_,_,_,_=>by cases h1
 |p::z,y::D,[],env,tm,_,h2,_,_,_=>by cases h2
 |p::z,y::D,u::us,env,tm,h1,h2,I,h,J=>by
  unfold o4;rw[List.zip_cons_cons,List.foldl_cons];refine Gz z D us _ _ (by simpa using h1) (by simpa using h2) (fun q U=>by rw[Array.size_setIfInBounds];exact I q (by simp[U])) (fun t=>?_) (fun j x v Z V=>J (j+1) x v (by simpa using Z) (by simpa using V)) ;by_cases G:t=p
  ·subst G;rw[iA,Array.getD_eq_getD_getElem?,Array.getElem?_setIfInBounds_self_of_lt (I t (by simp))];exact .t _ _ (J 0 y u rfl rfl)
  ·rw[qM G,Array.getD_eq_getD_getElem?,Array.getElem?_setIfInBounds_ne (Ne.symm G),<- Array.getD_eq_getD_getElem?];exact h t
theorem HL:∀(l:List (Nat×Value)) (tm:Array Value),(l.foldl (fun t (p,v)=>t.setIfInBounds p v) tm).size=tm.size
 |[],_=>rfl
 |(p,v)::l,tm=>by rw[List.foldl_cons,HL l];exact Array.size_setIfInBounds
def Out.code:Out->Code
 | .normal=>.skip
 | .exit id=>.exit id
 | .ret=>.ret
structure gr (γ:Glob) (κ:Ctx) (T:AV->Value->Prop) (S:Nat) (lo:Loop) (tm:Array Value) (ds:List Deferred) (env:Env) (fr:Fr) (L:Ls) (X:World):Prop where
 bw:aw γ κ fr L X
 env:∀t,SR (MA κ.M fr L) L X (env t) (tm.getD t undef)
 cap:∀x v,T x v->VR (MA κ.M fr L) X x v
 marks:Marks κ X ds
 gG:X.heap[S+1]?=some (.loop lo)
 mD:X.heap[S]?=some (.deferred (some []))
variable {T:AV->Value->Prop} {S:Nat} {lo lo':Loop} {tm:Array Value} {ds:List Deferred} {env:Env} {X Y:World}
theorem gr.below(h:gr γ κ T S lo tm ds env fr L X)(hb:Below X.heap.size X Y):gr γ κ T S lo tm ds env fr L Y where
 bw:=h.bw.later hb
 env:=fun t=>(h.env t).later hb
 cap:=fun x v u=>(h.cap x v u).later hb
 marks:=h.marks.below hb
 gG:=(hb.block _ (Array.getElem?_eq_some_iff.1 h.gG).1).trans h.gG
 mD:=(hb.block _ (Array.getElem?_eq_some_iff.1 h.mD).1).trans h.mD
theorem gr.put(y:κ.W.heap.size<=S)(h:gr γ κ T S lo tm ds env fr L X):gr γ κ T S lo' tm ds env fr L (X.putObj (S+1) (.loop lo')) where
 bw:=h.bw.lq (Lq.put (by omega) h.gG rfl)
 env:=fun t=>(h.env t).lq (Lq.put (B:=S+1) (Nat.le_refl _) h.gG rfl)
 cap:=fun x v u=>(h.cap x v u).lq (Lq.put (B:=S+1) (Nat.le_refl _) h.gG rfl)
 marks:=h.marks.put h.gG
 gG:=World.putObj_heap_same (Array.getElem?_eq_some_iff.1 h.gG).1
 mD:=(World.putObj_heap_other (by omega)).trans h.mD
theorem gr.head{lv:Option (List Nat)}{h:Nat}(y:gr γ κ T S lo tm ds env fr L X)(hh:∀j v,κ.L j=some v->j <h):∃L',gr γ κ T S lo tm ds (head lv h env fr).1 (head lv h env fr).2 L' X:=by
 unfold Go.Proofs.YtjolgbkkocjpgaaGreatDoor.head;split
 ·exact⟨L,y⟩
 ·rename_i l
  have hh:∀j v,κ.L j=some v->j <kG l h fr:=fun j v hj=>by
   unfold kG;split
   ·obtain⟨lb,h1,_⟩:=y.bw.hand j v hj;exact aC h1
   ·exact hh j v hj
  simp only;generalize kG l h fr=h at hh⊢;obtain⟨J,z,U⟩:=y.bw.nE ((List.range fr.length).filter (Nat.ble h));obtain⟨L',D,G⟩:=J.trim h hh;rw[Hu]at D G;refine⟨L',D,fun t=>oT (tm:=fun t=>tm.getD t undef) _ (fun p hp=>?_) t,fun x v hx=>?_,y.marks,y.gG,y.mD⟩
  ·obtain⟨k,_,rfl⟩:=List.mem_map.1 hp;have V:=qK (y.env k);show SR _ _ _ (oy fr h (un (env k))) _
   unfold oy;split
   ·exact G _ _ (z.sr V)
   ·split
    ·rename_i x I hx
     have Z:=(nW y.bw U deep).1 _ x _ hx (fun i hi u b hu hb=>by
      refine oH y.bw i ?_ u b hu hb;have:=List.all_eq_true.1 I i hi;exact List.mem_filter.2 ⟨List.mem_range.2 (y.bw.lim i u hu),this⟩) V
     have:=G _ _ (SR.t x _ Z);rw[SV.sub]at this;exact this
    ·exact G _ _ (z.sr V)
  ·have:=G _ _ (SR.t x _ (z.vr (y.cap x v hx)));rw[SV.sub]at this
   cases this with
   |t _ _ Z=>exact Z
def Loop.OA(h1:lo.state=.ready)(h2:lo.pending=none):{{lo with state:=.busy}with state:=.ready,pending:=none}=lo:=by
 cases lo;simp_all
def Pf{g:Cfg}{n:Nat}{lv:Option (List Nat)}{A B:Env->Fr->Option (Out×Env×Fr)}{asg body:Code}
  (hA:∀env fr o env' fr',A env fr=some (o,env',fr')->∀κ l dn a w,At γ κ n env fr a w->asg.wpIn (Fw (some l)) dn g.P (mn γ κ n o env' fr') a w)
  (hB:∀env fr o env' fr',B env fr=some (o,env',fr')->∀κ l dn a w,At γ κ n env fr a w->body.wpIn (Fw (some l)) dn g.P (mn γ κ n o env' fr') a w)
  (aJ:∀p∈lo.params.toList,p <n)(hS:κ.W.heap.size<=S)(h1:lo.state=.ready)(h2:lo.pending=none)(h3:lo.assign=asg)(h4:lo.body=body)(al:lo.tmps.size=n)
  (h:gr γ κ T S lo lo.tmps ds env fr L X){y:List AV}{o:Out}{e:Env}{r:Fr}(hr:lW lv A B lo.params.toList y env fr=some (o,e,r)){us:Array Value}(an:us.size=y.length)
  (hv:∀(j:Nat) (x:AV) (u:Value),y[j]?=some x->us[j]?=some u->VR (MA κ.M fr L) X x u)(m:Nat):
  YieldAt (Fw none) m g.P (S+1) us X fun en Y=>(o=.normal/\en=.returned (.bool true)/\∃L',gr γ κ T S lo lo.tmps ds e r L' Y)\/(o≠.normal/\en=.returned (.bool false)/\∃L',gr γ κ T S {lo with state:=.done,pending:=some o.code} lo.tmps ds e r L' Y):=by
 have hγ:γ.n<=S+1:=by have:=h.bw.gn;omega
 unfold lW at hr;split at hr
 ·cases hr
 rename_i J;rw[Nat.beq_eq]at J;split at hr
 ·cases hr
 rename_i bs hb;split at hr
 rotate_left
 ·cases hr
 rename_i e1 r1 aq;split at hr
 ·cases hr
 rename_i V e2 r2 au;split at hr
 ·cases hr
 rename_i aG;obtain⟨c1,c2,c3⟩:=h.bw.handed List.nodup_range hb;have ai:¬(b9 κ fr L X (List.range fr.length)).X (S+1):=fun⟨i,_,v,lb,q1,q2,q3,q4⟩=>(h.bw.mark (by omega) h.gG rfl).2 ⟨i,v,lb,q1,q2,q3,q4⟩;have U:S+1 <X.heap.size:=(Array.getElem?_eq_some_iff.1 h.gG).1
 have B8:At γ (b9 κ fr L X (List.range fr.length)) n (o4 lo.params.toList y fun t=>(env t).sub (bc (List.range fr.length))) (bs.map fun b=>cS (b.sub (bc (List.range fr.length)))) {tmps:=(lo.params.zip us).foldl (fun t (p,v)=>t.setIfInBounds p v) lo.tmps,defers:=[]} X:=by
  have hz:(lo.params.zip us).foldl (fun t (p,v)=>t.setIfInBounds p v) lo.tmps=(lo.params.toList.zip us.toList).foldl (fun t (p,v)=>t.setIfInBounds p v) lo.tmps:=by
   rw[<- Array.foldl_toList,Array.toList_zip]
  rw[hz];refine⟨Marks.nil,(HL _ _).trans al,_,c1,Gz _ _ _ _ _ (by rw[J]) (by simpa using an) (fun p hp=>by rw[al];exact aJ p hp) (fun t=>c3 _ _ (h.env t)) fun j x u hx hu=>?_⟩;exact VR.on (Nat.le_refl _) (fun b _ hm=>⟨c2 b hm,rfl⟩) (hv j x u hx (by simpa using hu))
 refine⟨lo.fn,(lo.params.zip us).foldl (fun t (p,v)=>t.setIfInBounds p v) lo.tmps,asg,body,?_,roundIn_of_wpIn trivial ?_⟩
 ·have:=run_yield (P:=g.P) (args:=us) h.gG (by rw[an,J];simp);rw[h3,h4]at this;exact this
 refine wpIn_mono (hA _ _ _ _ _ aq _ (S+1) m _ X B8) fun ex a1 X1 ⟨he,m1,s1,L1,Z,aD⟩=>?_;subst he;have G:X1.heap[S+1]?=some (.loop lo):=(Z.kept (S+1) U ai).trans h.gG;refine⟨_,run_beginRound G h1,?_⟩
 have av:aw γ ⟨(b9 κ fr L X (List.range fr.length)).M,(b9 κ fr L X (List.range fr.length)).X,(b9 κ fr L X (List.range fr.length)).H,X.putObj (S+1) (.loop {lo with state:=.busy}),(b9 κ fr L X (List.range fr.length)).L⟩ r1 L1 (X1.putObj (S+1) (.loop {lo with state:=.busy})):=
  Z.FE (Lq.put hγ h.gG rfl) (Lq.put hγ G rfl) fun k hk hx=>by
   by_cases z:k=S+1
   ·subst z;rw[World.putObj_heap_same U,World.putObj_heap_same (Array.getElem?_eq_some_iff.1 G).1]
   ·rw[World.putObj_heap_other z,World.putObj_heap_other z];exact Z.kept k hk hx
 have ao:At γ _ n e1 r1 a1 (X1.putObj (S+1) (.loop {lo with state:=.busy})):=⟨by
  obtain⟨⟨Ds,n1,n2,n3⟩,n4⟩:=m1.put (o:=.loop {lo with state:=.busy}) G
  exact⟨⟨Ds,n1,n2,fun D hD=>⟨by
   show(X.putObj (S+1) _).heap.size<=D
   rw[World.putObj_size];exact(n3 D hD).1,(n3 D hD).2⟩⟩,fun hh=>n4 (by
   have hh:(b9 κ fr L X (List.range fr.length)).H (X.putObj (S+1) (.loop {lo with state:=.busy})).heap.size:=hh;rw[World.putObj_size]at hh;exact hh)⟩,s1,L1,av,fun t=>(aD t).lq (Lq.put (B:=S+1) (Nat.le_refl _) G rfl)⟩
 refine wpIn_mono (hB _ _ _ _ _ au _ (S+1) m a1 _ ao) fun ex a3 X3 ⟨he,_,_,L3,ab,aR⟩=>?_;subst he;have I:X3.heap[S+1]?=some (.loop {lo with state:=.busy}):=(ab.kept (S+1) (by show S+1 <(X.putObj (S+1) _).heap.size;rw[World.putObj_size];exact U) ai).trans (World.putObj_heap_same U)
 have aB:aw γ (b9 κ fr L X (List.range fr.length)) r2 L3 (X3.putObj (S+1) (.loop lo)):=by
  refine ab.FE (W1:=X) ⟨rfl,rfl,rfl,World.putObj_size.symm,fun b=>?_⟩ (Lq.put hγ I rfl) fun k hk hx=>?_
  ·by_cases ag:b=S+1
   ·subst ag;exact .inr ⟨hγ,_,World.putObj_heap_same U,rfl⟩
   ·exact .inl (World.putObj_heap_other ag).symm
  ·by_cases z:k=S+1
   ·subst z;rw[World.putObj_heap_same (Array.getElem?_eq_some_iff.1 I).1];exact h.gG.symm
   ·rw[World.putObj_heap_other z,ab.kept k hk hx];exact World.putObj_heap_other z
 obtain⟨b1,b2,b3,b4⟩:=h.bw.back List.nodup_range hb aB aG
 have r4:gr γ κ T S lo lo.tmps ds (dG (dy (List.range fr.length) r2) env) (back (List.range fr.length) fr r2) (fT (List.range fr.length) fr.length L L3) (X3.putObj (S+1) (.loop lo)):=
  ⟨b1,fun t=>b2.env (h.env t),fun x v hx=>b2.vr (h.cap x v hx),h.marks.tr h.bw b2,World.putObj_heap_same (Array.getElem?_eq_some_iff.1 I).1,(b2.same S (by omega) (h.bw.mark hS h.mD rfl)).2.trans h.mD⟩
 have ad:∀j v,κ.L j=some v->j <fr.length:=fun j v hj=>by
  obtain⟨lb,q1,_⟩:=h.bw.hand j v hj;exact aC q1
 have fin:∀(V:Out),V≠.normal->∃v w',(Instr.endRound (S+1) (some V.code)).run g.P X3=.ok v w'/\v=.bool false/\gr γ κ T S {lo with state:=.done,pending:=some V.code} lo.tmps ds (dG (dy (List.range fr.length) r2) env) (back (List.range fr.length) fr r2) (fT (List.range fr.length) fr.length L L3) w':=fun V _=>by
  refine⟨_,_,run_endRound (some V.code) I,rfl,?_⟩;have:=r4.put (lo':={lo with state:=.done,pending:=some V.code}) hS
  have e:(X3.putObj (S+1) (.loop lo)).putObj (S+1) (.loop {lo with state:=.done,pending:=some V.code})=X3.putObj (S+1) (.loop {lo with state:=.done,pending:=some V.code}):=by
   simp[World.putObj]
  rw[e]at this;exact this
 cases V with
 |normal=>
  simp only at hr;cases hr;have:=run_endRound (P:=g.P) none I;refine⟨_,_,this,.inl ⟨rfl,rfl,?_⟩⟩;have e:({{lo with state:=.busy}with state:=if(none:Option Code).isNone then .ready else .done,pending:=none}:Loop)=lo:=Loop.OA h1 h2;rw[e];exact r4.head ad
 |exit id=>
  simp only at hr;cases hr;obtain⟨v,w',q1,rfl,q2⟩:=fin (.exit id) (by simp);exact⟨_,w',q1,.inr ⟨by simp,rfl,_,q2⟩⟩
 |ret=>
  simp only at hr;cases hr;obtain⟨v,w',q1,rfl,q2⟩:=fin .ret (by simp);exact⟨_,w',q1,.inr ⟨by simp,rfl,_,q2⟩⟩
def Oo{g:Cfg}{n dn:Nat}{lv:Option (List Nat)}{Aa B:Env->Fr->Option (Out×Env×Fr)}{op:Operand}{ps:Array Tmp}{asg body:Code}{a:Act}{gf:Nat}{lb:Array Value}{yss:List (List AV)}{wh:Bool}{o:Out}{env':Env}{fr':Fr}
  (hA:∀env fr o env' fr',Aa env fr=some (o,env',fr')->∀κ l dn a w,At γ κ n env fr a w->asg.wpIn (Fw (some l)) dn g.P (mn γ κ n o env' fr') a w)
  (hB:∀env fr o env' fr',B env fr=some (o,env',fr')->∀κ l dn a w,At γ κ n env fr a w->body.wpIn (Fw (some l)) dn g.P (mn γ κ n o env' fr') a w)
  (ao:∀p∈ps.toList,p <n)(hg:a.eval op=.func (.func gf) #[] lb)(V:uU γ g.P gf lb T yss wh)(h:k8 lv Aa B ps.toList wh yss env fr=some (o,env',fr'))
  (hfl:¬κ.H κ.W.heap.size)(hd:Marks κ w a.defers)(hn:a.tmps.size=n)(hC:aw γ κ fr L w)(hV:∀t,SR (MA κ.M fr L) L w (env t) (a.tmps.getD t undef))(ad:∀x v,T x v->VR (MA κ.M fr L) w x v):
  (Code.rangeFunc op ps asg body).wpIn (Fw none) dn g.P (mn γ κ n o env' fr') a w:=by
 refine wpIn_rangeFunc fun fn _=>?_;obtain⟨hk,V⟩:=V;obtain⟨lo,u⟩:∃lo:Loop,lo={state:=.ready,pending:=none,fn,tmps:=a.tmps,params:=ps,assign:=asg,body,defers:=w.heap.size}:=⟨_,rfl⟩;have ab:κ.W.heap.size<=w.heap.size:=hC.size;have Z:lo.tmps=a.tmps:=by rw[u]
 have J:Below w.heap.size w ((w.alloc (.deferred (some []))).alloc (.loop lo)):=((Below.refl _ w).alloc (Nat.le_refl _) _).alloc (by simp) _
 have r1:gr γ κ T w.heap.size lo lo.tmps a.defers env fr L ((w.alloc (.deferred (some []))).alloc (.loop lo)):=by
  refine⟨hC.later J,fun t=>?_,fun x v hx=>(ad x v hx).later J,hd.below J,?_,?_⟩
  ·rw[Z];exact(hV t).later J
  ·have:=World.alloc_heap_new (w.alloc (.deferred (some []))) (.loop lo);rwa[World.size_alloc]at this
  ·exact(Below.heap_alloc _ _ _ (by simp)).trans (World.alloc_heap_new w _)
 have U:∀{G:Ls} {lo':Loop} {e:Env} {r:Fr} {Y:World},gr γ κ T w.heap.size lo' lo.tmps a.defers e r G Y->At γ κ n e r {a with defers:=[{target:=.collected w.heap.size,args:=#[]}]++a.defers} (Y.putObj (w.heap.size+1) (.loop {lo' with state:=.exhausted})):=fun{G lo' e r Y} hr=>by
  have h1:=hr.put (lo':={lo' with state:=.exhausted}) ab;refine⟨?_,hn,G,h1.bw,fun t=>?_⟩
  ·obtain⟨⟨Ds,n1,n2,n3⟩,_⟩:=h1.marks;obtain⟨⟨ai,m1,m2,m3⟩,_⟩:=hd
   have al:Ds=ai:=by
    have:=n2.symm.trans m2;exact List.map_inj_right (fun x y au=>by simpa using au)|>.1 this
   subst al;refine⟨⟨w.heap.size::Ds,List.nodup_cons.2 ⟨fun hm=>?_,n1⟩,?_,fun D hD=>?_⟩,fun hh=>absurd hh hfl⟩
   ·have:=(Array.getElem?_eq_some_iff.1 (m3 _ hm).2).1;omega
   ·show _::a.defers=_
    rw[n2];rfl
   ·rcases List.mem_cons.1 hD with rfl|hD
    ·exact⟨ab,h1.mD⟩
    ·exact n3 D hD
  ·have:=h1.env t;rw[Z]at this;exact this
 refine⟨w.heap.size+1,[{target:=.collected w.heap.size,args:=#[]}],(w.alloc (.deferred (some []))).alloc (.loop lo),{target:=.fn (.func gf) lb,args:=#[.func (.yield (w.heap.size+1)) #[] #[]]},(w.alloc (.deferred (some []))).alloc (.loop lo),gf,#[.func (.yield (w.heap.size+1)) #[] #[]]++lb,(w.alloc (.deferred (some []))).alloc (.loop lo),?_,?_,fun _ _=>trivial,?_,(fun hh=>by cases hh),?_⟩
 ·rw[u];exact run_enterLoop_outer _ _ _ _ _
 ·simp only[resolve,hg];simp[go_sem]
 ·simp[invoke,go_sem,AY hk]
 ·refine(V (w.heap.size+1) (fun q A X=>∃e r G,k8 lv Aa B ps.toList wh q e r=some (o,env',fr')/\A=MA κ.M r G/\gr γ κ T w.heap.size lo lo.tmps a.defers e r G X)
   (fun X=>o≠.normal/\∃G,gr γ κ T w.heap.size {lo with state:=.done,pending:=some o.code} lo.tmps a.defers env' fr' G X) _ _ ?_ ?_ ?_ ?_ ?_ ⟨env,fr,L,h,rfl,r1⟩ (dn - 1)).mono ?_
  ·rintro q A X Y ⟨e,r,G,I,q2,z⟩ hb;exact⟨e,r,G,I,q2,z.below hb⟩
  ·rintro X Y ⟨I,G,z⟩ hb;exact⟨I,G,z.below hb⟩
  ·rintro q A X ⟨e,r,G,I,rfl,z⟩;exact⟨z.bw.pure _ fun b hb=>⟨z.bw.fresh b (Nat.le_trans z.bw.size hb),fun ho=>by have:=(z.bw.own ho).1;omega⟩,z.cap⟩
  ·rintro aq A X ⟨e,r,G,I,_⟩;subst aq;cases I
  ·rintro y q A us X ⟨e,r,G,I,rfl,z⟩ hus hv m;unfold k8 at I
   have go:∀{o1:Out} {e1:Env} {f1:Fr},lW lv Aa B ps.toList y e r=some (o1,e1,f1)->YieldAt (Fw none) m g.P (w.heap.size+1) us X _:=fun{o1 e1 f1} hr=>
    Pf (lo:=lo) (asg:=asg) (body:=body) hA hB (by rw[u];exact ao) ab (by rw[u]) (by rw[u]) (by rw[u]) (by rw[u]) (by rw[u];exact hn) z (by rw[u];exact hr) hus hv m
   split at I
   ·rename_i e1 f1 hr;obtain⟨fn,tmps,ag,bd,y1,y2⟩:=go hr;refine⟨fn,tmps,ag,bd,y1,y2.mono ?_⟩;rintro en Y (⟨_,z1,L2,z2⟩|⟨z0,_⟩)
    ·exact .inl ⟨z1,_,_,_,_,I,rfl,z2⟩
    ·exact absurd rfl z0
   ·rename_i an;obtain⟨fn,tmps,ag,bd,y1,y2⟩:=go I;refine⟨fn,tmps,ag,bd,y1,y2.mono ?_⟩;rintro en Y (⟨z0,_⟩|⟨z0,z1,L2,z2⟩)
    ·subst z0;exact absurd I (an _ _)
    ·exact .inr ⟨z1,z0,L2,z2⟩
  ·rintro en Y ⟨⟨v,rfl⟩,⟨hwh,A',e,r,G,I,_,z⟩|⟨I,G,z⟩⟩
   ·subst hwh;cases I;have:=run_endLoop (P:=g.P) z.gG (by rw[u];simp);have hp:lo.pending=none:=by rw[u]
    refine⟨lo.pending,_,this,?_⟩;split
    ·exact⟨rfl,U z⟩
    ·rename_i hc;rw[hp]at hc;cases hc
   ·have:=run_endLoop (P:=g.P) z.gG (by simp);refine⟨some o.code,_,this,?_⟩
    cases o with
    |normal=>exact absurd rfl I
    |exit id=>exact wpIn_exit ⟨rfl,U z⟩
    |ret=>exact wpIn_ret ⟨rfl,U z⟩
end
section
variable {g:Cfg} {γ:Glob} {κ:Ctx} {C:CallF} {Lp:LoopF} {n:Nat}
def vF(ai:g.P.follows .mixedOrders=true)(hS:eK g.P γ C)(hL:sJ g γ Lp)(hQ:∀(gf:Nat) (xs:List AV) (yss:List (List AV)) (wh:Bool),g.seq gf xs=some (yss,wh)->∀(lb:Array Value),lb.size=xs.length->uU γ g.P gf lb (uQ xs lb) yss wh){f:Nat}:∀(c:Code) (env:Env) (fr:Fr) (o:Out) (env':Env) (fr':Fr),bB g f C Lp c env fr=some (o,env',fr')->dz g f n c=true->∀(κ:Ctx) (rd:Option Nat) (dn:Nat) (a:Act) (w:World),((rd=none/\¬κ.H κ.W.heap.size)\/dR c=true)->At γ κ n env fr a w->c.wpIn (Fw rd) dn g.P (mn γ κ n o env' fr') a w:=by
 intro c
 induction c with
 |skip=>intro env fr o env' fr' h _ κ rd dn a w G U;unfold bB at h;cases h;exact wpIn_skip ⟨rfl,U⟩
 |exit id=>intro env fr o env' fr' h _ κ rd dn a w G U;unfold bB at h;cases h;exact wpIn_exit ⟨rfl,U⟩
 |ret=>intro env fr o env' fr' h _ κ rd dn a w G U;unfold bB at h;cases h;exact wpIn_ret ⟨rfl,U⟩
 |region id ops au=>
  intro env fr o env' fr' h u κ rd dn a w G U;unfold bB at h;unfold dz at u;rw[Bool.and_eq_true]at u;obtain⟨h1,h2,L,I,J⟩:=U;split at h
  ·rename_i e r z;cases h;unfold mF at z
   cases au with
   |false=>
    simp only at z;split at z
    ·have:=Fa (rd:=rd) (dn:=dn) hS (ops:=ops) (n:=n) (κ:=κ) (Q:=mn γ κ n .normal env' fr') (env':=env') (fr':=fr') u.1 (fun L a w hd Z I J=>⟨rfl,hd,Z,L,I,J⟩) ops.toList 0 env fr L a w (fun o ho=>ho) z h1 h2 I J;exact wpIn_region_lit (l:=ops.toList) (by simpa using this)
    ·rename_i k _ _;unfold th at z;split at z
     ·cases z
     ·rename_i e1 r1 aD;split at z
      ·cases z
      ·rename_i o l hl;split at z
       ·cases z
       ·rename_i hg;split at z
        ·cases z
        ·rename_i x r2 hB;have an:∀o'∈o::l,o'∈ops.toList:=fun o' ad=>List.mem_of_mem_drop (by rw[hl];exact ad)
         have aG:=NG (rd:=rd) (dn:=dn) hS (ops:=ops) (n:=n) (κ:=κ) (Q:=mn γ κ n .normal env' fr') (env':=e1) (fr':=r1) (l2:=o::l) u.1 (fun L a w hd Z I J=>by
          unfold wpListIn;rw[if_pos (by simp[Region.wanted,hg])];refine(Iz hB κ L a w I (fun y _=>nA J y)).wpIn fun v w' ⟨L',hT,aJ,hv⟩=>?_;refine Fa (rd:=rd) (dn:=dn) hS (ops:=ops) (n:=n) (κ:=κ) (Q:=mn γ κ n .normal env' fr') (env':=env') (fr':=fr') u.1 (fun L a w hd Z I J=>⟨rfl,hd,Z,L,I,J⟩) l (k+1) _ _ L' _ _ (fun o' ad=>an o' (by simp[ad])) z (by rw[put_defers];exact hd.tr I hT) (by rw[bY,Z]) aJ ?_;exact lU (fun t=>hT.env (J t)) hv fun q hq=>by rw[Z];exact jD u.1 (an o (by simp)) hq) (ops.toList.take k) 0 env fr L a w (fun o' ad=>List.mem_of_mem_take ad) aD h1 h2 I J
         rw[<- hl,List.take_append_drop]at aG;exact wpIn_region_lit (l:=ops.toList) (by simpa using aG)
   |true=>
    match hm:pQ (g.eff f id)with
    |0=>
     have D:=u.2;simp only[hm]at z D;obtain⟨E,F,a1,a2,a3,a4,a5⟩:=Fb ops.toList 0 env fr z
     have hE:Steps g C ops (g.eff f id) E F:=fun i o ho=>by
      have:=a3 i o (by rw[Array.getElem?_toList];exact ho);rwa[Nat.zero_add]at this
     rw[Array.length_toList]at a4 a5;refine wpIn_region_any ai (RT (n:=n) (κ:=κ) (E:=E) (F:=F) hS (JZ D) u.1 hE (fun L a w hd Z I J=>⟨rfl,hd,Z,L,by rw[<- a5];exact I,by rw[<- a5,<- a4];exact J⟩) _ 0 L _ a _ ?_ (iC.start h1 h2 ?_ fun t=>?_))
     ·unfold eW;exact Nat.le_trans (List.countP_le_length) (by simp)
     ·rw[a2];exact I.later (Below.drew (Below.refl _ _))
     ·rw[a1,a2];exact(J t).later (Below.drew (Below.refl _ _))
    |1=>
     have D:=u.2;simp only[hm]at z D;obtain⟨E,F,a1,a2,a3,a4,a5⟩:=ue ops.toList 0 env fr z
     have hE:jx g C ops (g.eff f id) E F:=fun i o ho=>by
      have:=a3 i o (by rw[Array.getElem?_toList];exact ho);rwa[Nat.zero_add]at this
     rw[Array.length_toList]at a4 a5;refine wpIn_region_any ai (RV (n:=n) (κ:=κ) (E:=E) (F:=F) hS (CU D) u.1 hE (fun L a w hd Z I J=>⟨rfl,hd,Z,L,by rw[<- a5];exact I,by rw[<- a5,<- a4];exact J⟩) _ 0 L _ a _ ?_ (dl.start h1 h2 ?_ fun t=>?_))
     ·unfold eW;exact Nat.le_trans (List.countP_le_length) (by simp)
     ·rw[a2];exact I.later (Below.drew (Below.refl _ _))
     ·rw[a1,a2];exact(J t).later (Below.drew (Below.refl _ _))
    |3=>simp only[hm]at z;cases z
    |4=>
     have D:=u.2;simp only[hm]at z D;refine wpIn_region_any ai (OH (n:=n) (κ:=κ) (L:=L) hS D u.1 z (fun L a w hd Z I J=>⟨rfl,hd,Z,L,I,J⟩) h1 h2 (I.later (Below.drew (Below.refl _ _))) fun t=>(J t).later (Below.drew (Below.refl _ _)))
    |2=>simp only[hm]at z;cases z
    |5=>
     have D:=u.2;simp only[hm]at z D;refine wpIn_region_any ai (OJ (n:=n) (κ:=κ) (L:=L) hS (CU D) u.1 z (fun L a w hd Z I J=>⟨rfl,hd,Z,L,I,J⟩) h1 h2 (I.later (Below.drew (Below.refl _ _))) fun t=>(J t).later (Below.drew (Below.refl _ _)))
    |n+6=>simp only[hm]at z;cases z
  ·cases h
 |seq x y al aq=>
  intro env fr o env' fr' h u κ rd dn a w G U;unfold bB at h;unfold dz at u;rw[Bool.and_eq_true]at u;have ab:(rd=none/\¬κ.H κ.W.heap.size)\/dR x=true:=G.imp (fun q=>q) fun q=>by unfold dR at q;rw[Bool.and_eq_true]at q;exact q.1
  have ag:(rd=none/\¬κ.H κ.W.heap.size)\/dR y=true:=G.imp (fun q=>q) fun q=>by unfold dR at q;rw[Bool.and_eq_true]at q;exact q.2
  split at h
  ·rename_i e r hx;refine wpIn_seq (wpIn_mono (al _ _ _ _ _ hx u.1 κ rd dn a w ab U) fun ex a' w' ⟨z,V⟩=>?_);subst z;exact aq _ _ _ _ _ h u.2 κ rd dn a' w' ag V
  ·rename_i ao;refine wpIn_seq (wpIn_mono (al _ _ _ _ _ h u.1 κ rd dn a w ab U) fun ex a' w' ⟨z,V⟩=>?_);subst z
   cases o with
   |normal=>exact absurd h (ao _ _)
   |exit id=>exact⟨rfl,V⟩
   |ret=>exact⟨rfl,V⟩
 |cond c x y al aq=>
  intro env fr o env' fr' h u κ rd dn a w G U;unfold bB at h;unfold dz at u;rw[Bool.and_eq_true]at u;have V:=U;have ab:(rd=none/\¬κ.H κ.W.heap.size)\/dR x=true:=G.imp (fun q=>q) fun q=>by unfold dR at q;rw[Bool.and_eq_true]at q;exact q.1
  have ag:(rd=none/\¬κ.H κ.W.heap.size)\/dR y=true:=G.imp (fun q=>q) fun q=>by unfold dR at q;rw[Bool.and_eq_true]at q;exact q.2
  obtain⟨_,_,L,I,J⟩:=V;have hc:=cF (nA J c);split at h
  ·rename_i hr;rw[hr]at hc;exact wpIn_cond_split (kK hc) (fun _=>al _ _ _ _ _ h u.1 κ rd dn a w ab U) (fun e=>by cases e)
  ·rename_i hr;rw[hr]at hc;exact wpIn_cond_split (kK hc) (fun e=>by cases e) (fun _=>aq _ _ _ _ _ h u.2 κ rd dn a w ag U)
  ·cases h
 |block id b ih=>
  intro env fr o env' fr' h u κ rd dn a w G U;unfold bB at h;unfold dz at u;split at h
  ·rename_i i e r hx;refine wpIn_block (wpIn_mono (ih _ _ _ _ _ hx u κ rd dn a w (G.imp (fun q=>q) fun q=>by unfold dR at q;exact q) U) fun ex a' w' ⟨z,V⟩=>?_);subst z;simp only[Out.xY,Exit.inBlock];split at h
   ·rename_i hi;cases h;rw[if_pos (by simpa using hi)];exact⟨rfl,V⟩
   ·rename_i hi;cases h;rw[if_neg (by intro e;subst e;simp at hi)];exact⟨rfl,V⟩
  ·rename_i ao;refine wpIn_block (wpIn_mono (ih _ _ _ _ _ h u κ rd dn a w (G.imp (fun q=>q) fun q=>by unfold dR at q;exact q) U) fun ex a' w' ⟨z,V⟩=>?_);subst z
   cases o with
   |normal=>exact⟨rfl,V⟩
   |exit i=>exact absurd h (ao _ _ _)
   |ret=>exact⟨rfl,V⟩
 |loop b ih=>
  intro env fr o env' fr' h u κ rd dn a w G U;unfold bB at h;unfold dz at u;have h1:=At.own (env:=env) (fr:=fr) (g.own f (db b)) env fr U;exact hL _ _ _ _ _ _ _ h n u κ rd dn a w (G.imp (fun q=>q) fun q=>by unfold dR at q;exact q) (h1.head h1.handed)
 |rangeFunc op ps asg body bh bi=>
  intro env fr o env' fr' h u κ rd dn a w G U;obtain⟨rfl,bd⟩:rd=none/\¬κ.H κ.W.heap.size:=G.resolve_right (by unfold dR;simp);unfold bB at h;unfold dz at u;rw[Bool.and_eq_true,Bool.and_eq_true,Bool.and_eq_true,Bool.and_eq_true]at u;obtain⟨⟨⟨⟨w1,w2⟩,w3⟩,w4⟩,w5⟩:=u;split at h
  ·rename_i gf bs aB;split at h
   ·cases h
   ·rename_i cs bb;split at h
    ·cases h
    ·rename_i yss wh bf;obtain⟨d1,d2,L,I,J⟩:=U;obtain⟨fs,lb,hv,aX,a6,bl,a8⟩:=Cu aB (cF (nA J op));obtain⟨aR,av,aV⟩:=I.nE (bD fr bs);obtain⟨p1,p2⟩:=qH I aV _ _ bb (oH I);have be:fs=#[]:=Array.eq_empty_of_size_eq_zero (by rw[<- aX];rfl);subst be;refine Oo (fun env fr o env' fr' h κ l dn a w U=>bh _ _ _ _ _ h w1 κ (some l) dn a w (.inr w3) U) (fun env fr o env' fr' h κ l dn a w U=>bi _ _ _ _ _ h w2 κ (some l) dn a w (.inr w4) U) (fun p hp=>by simpa[Nat.blt_eq]using List.all_eq_true.1 w5 p hp) hv (hQ _ _ _ _ bf lb (by rw[<- a6,p1])) (T:=uQ cs lb) h bd (d1.tr I av) d2 aR (fun t=>av.sr (J t)) fun x v ⟨j,hx,hu⟩=>?_;obtain⟨s,hs⟩:=aj (xs:=bs) (k:=j) (by rw[p1];exact aC hx);exact p2 j s x v hs hx (a8 j s v hs hu)
  ·cases h
 |_=>intro env fr o env' fr' h;unfold bB at h;cases h
def MH{P:Program}{A:Nat->Prop}{L:Ls}{w:World}{fr:Fr}{t:Nat}{s x:SV}{v:Value}(h:fW P fr t s=some x)(hs:SR A L w s v):∃a,v=.pointer (some a):=by
 unfold fW at h;split at h
 ·cases h
 ·split at h
  ·obtain⟨b,o,u,rfl,_⟩:=rG hs;exact⟨_,rfl⟩
  ·obtain⟨b,_,rfl⟩:=lI hs;exact⟨_,rfl⟩
  ·obtain⟨b,m,c,_,rfl⟩:=p7 hs;exact⟨_,rfl⟩
  ·obtain⟨_,b,m,c,_,_,rfl⟩:=wa hs;exact⟨_,rfl⟩
  ·cases h
def AL(tmps:Array Value):ResultVar->Sem Value
 | .tmp t=>pure (tmps.getD t undef)
 | .cell a t=>do loadVar t (<- asAddr (tmps.getD a undef))
def OM(fn:Func)(tmps:Array Value):results fn tmps=(do let vs <- fn.results.mapM (AL tmps);pure (if h:vs.size=1 then vs[0]else .tuple vs)):=by
 unfold results;congr 2
def OL{P:Program}{γ:Glob}{κ:Ctx}{fr:Fr}{L:Ls}{w:World}{env:Env}{tmps:Array Value}(G:aw γ κ fr L w)(y:∀t,SR (MA κ.M fr L) L w (env t) (tmps.getD t undef)){r:ResultVar}{q:Nat×Option Nat}{x:SV}(hq:f_ [r]=[q])(hx:Fc P env fr q=some x):∃v,(AL tmps r).run P w=.ok v w/\SR (MA κ.M fr L) L w x v:=by
 cases r with
 |tmp t=>unfold f_ f_ at hq;cases hq;cases hx;exact⟨_,rfl,y t⟩
 |cell a T=>
  unfold f_ f_ at hq;cases hq;have hx:fW P fr T (un (env a))=some x:=hx;have z:=qK (y a);obtain⟨I,D⟩:=MH hx z;obtain⟨u,h1,h2⟩:=tV G hx z;refine⟨u,?_,h2⟩;rw[D]at h1;show((asAddr (tmps.getD a undef))>>=fun d=>loadVar T d).run P w=_
  rw[D];simpa[Instr.loadAt,Instr.sureAddr,asAddr,Sem.run_bind]using h1
def AM{P:Program}{γ:Glob}{κ:Ctx}{fr:Fr}{L:Ls}{w:World}{env:Env}{fn:Func}{tmps:Array Value}{x:SV}(hC:aw γ κ fr L w)(hV:∀t,SR (MA κ.M fr L) L w (env t) (tmps.getD t undef))(h:oV P env fr (f_ fn.results.toList)=some x)(ai:fn.results.size<=4):
  ∃v,(results fn tmps).run P w=.ok v w/\SR (MA κ.M fr L) L w x v:=by
 have ab:∀(l:List ResultVar) (xs:List SV),ug P env fr (f_ l)=some xs->∃I:List Value,I.length=l.length/\xs.length=l.length/\∀(j:Nat) (r:ResultVar) (x:SV) (v:Value),l[j]?=some r->xs[j]?=some x->I[j]?=some v->(AL tmps r).run P w=.ok v w/\SR (MA κ.M fr L) L w x v:=fun l=>by
  induction l with
  |nil=>intro xs h;unfold f_ ug at h;cases h;exact⟨[],rfl,rfl,fun j r x v U=>by simp at U⟩
  |cons r l ih=>
   intro xs h;have hc:∃q,f_ [r]=[q]/\f_ (r::l)=q::f_ l:=by cases r <;>exact⟨_,rfl,rfl⟩
   obtain⟨q,hq,hc⟩:=hc;rw[hc]at h;unfold ug at h;split at h
   ·cases h
   ·rename_i x0 al;split at h
    ·cases h
    ·rename_i aq ao;cases h;obtain⟨G,e1,e2⟩:=OL hC hV hq al;obtain⟨I,V,Z,D⟩:=ih _ ao;refine⟨G::I,by simp[V],by simp[Z],fun j r' x v U y z=>?_⟩
     cases j with
     |zero=>cases U;cases y;cases z;exact⟨e1,e2⟩
     |succ j=>exact D j r' x v U y z
 unfold oV at h;have ag:fn.results.toList.length<=4:=by simpa using ai
 have ad:fn.results=fn.results.toList.toArray:=by simp
 rw[OM];generalize fn.results.toList=l at*
 rw[ad];have aJ:∀(xs:List SV) (I:List Value),I.length=xs.length->(∀(j:Nat) (x:SV) (v:Value),xs[j]?=some x->I[j]?=some v->SR (MA κ.M fr L) L w x v)->SR (MA κ.M fr L) L w (.aJ xs) (.tuple I.toArray):=fun xs I hl U=>.aJ _ _ (by simpa using hl) fun j x u y hu=>U j x u y (by simpa using hu);split at h
 ·cases h
 ·rename_i x0 y;cases h;obtain⟨I,V,Z,D⟩:=ab l _ y
  match l,I,V,Z,D with
  |[r],[v],_,_,D=>
   obtain⟨g1,g2⟩:=D 0 r x v rfl rfl rfl;exact⟨v,by simp[Sem.run_bind,g1],g2⟩
 ·rename_i xs an y;cases h;obtain⟨I,V,Z,D⟩:=ab l _ y
  match l,I,xs,V,Z,D,ag with
  |[],[],[],_,_,_,_=>exact⟨.tuple #[],by simp[Sem.run_bind],aJ [] [] rfl fun j x v y=>by simp at y⟩
  |[r],[v],[x],_,_,D,_=>exact absurd rfl (an x)
  |[r0,r1],[G,v1],[x0,x1],_,_,D,_=>
   have a0:=D 0 r0 x0 G rfl rfl rfl;have J:=D 1 r1 x1 v1 rfl rfl rfl
   exact⟨.tuple #[G,v1],by simp[Sem.run_bind,a0.1,J.1],aJ [x0,x1] [G,v1] rfl fun j x v y z=>by
    match j,y,z with
    |0,y,z=>cases y;cases z;exact a0.2
    |1,y,z=>cases y;cases z;exact J.2⟩
  |[r0,r1,r2],[G,v1,v2],[x0,x1,x2],_,_,D,_=>
   have a0:=D 0 r0 x0 G rfl rfl rfl;have J:=D 1 r1 x1 v1 rfl rfl rfl;have a2:=D 2 r2 x2 v2 rfl rfl rfl
   exact⟨.tuple #[G,v1,v2],by simp[Sem.run_bind,a0.1,J.1,a2.1],aJ [x0,x1,x2] [G,v1,v2] rfl fun j x v y z=>by
    match j,y,z with
    |0,y,z=>cases y;cases z;exact a0.2
    |1,y,z=>cases y;cases z;exact J.2
    |2,y,z=>cases y;cases z;exact a2.2⟩
  |[r0,r1,r2,r3],[G,v1,v2,v3],[x0,x1,x2,x3],_,_,D,_=>
   have a0:=D 0 r0 x0 G rfl rfl rfl;have J:=D 1 r1 x1 v1 rfl rfl rfl;have a2:=D 2 r2 x2 v2 rfl rfl rfl;have a3:=D 3 r3 x3 v3 rfl rfl rfl
   exact⟨.tuple #[G,v1,v2,v3],by simp[Sem.run_bind,a0.1,J.1,a2.1,a3.1],aJ [x0,x1,x2,x3] [G,v1,v2,v3] rfl fun j x v y z=>by
    match j,y,z with
    |0,y,z=>cases y;cases z;exact a0.2
    |1,y,z=>cases y;cases z;exact J.2
    |2,y,z=>cases y;cases z;exact a2.2
    |3,y,z=>cases y;cases z;exact a3.2⟩
def Rk{z:Fr}{L:Ls}{w:World}{r:SV}{x:AV}{v:Value}(y:aw γ κ z L w)(I:∀(j:Nat) (v:Value),κ.L j=some v->False)(hx:jq z deep r=some x)(hr:SR (MA κ.M z L) L w r v):∃L',aw γ κ [] L' w/\SR (MA κ.M [] L') L' w (.t x) v:=by
 have U:∀b,κ.M b->MA κ.M [] (fun _=>none) b:=fun b D=>⟨D,fun⟨i,v,Z,h,_⟩=>by cases h⟩;refine⟨fun _=>none,?_,.t _ _ ((nW y (A:=MA κ.M [] (fun _=>none)) (fun b D=>U b D.1) deep).1 r x v hx (fun i _ u b V J=>?_) hr)⟩
 ·exact{
   glob:=y.glob
   gn:=y.gn
   gx:=y.gx
   fresh:=y.fresh
   os:=y.os
   tape:=y.tape
   output:=y.output
   size:=y.size
   kept:=y.kept
   lim:=fun i v h=>by cases h
   new:=fun i v b Z h=>by cases h
   dis:=fun i j v v' b h=>by cases h
   hand:=fun j v h=>(I j v h).elim
   blk:=fun i Z h=>by cases h}
 ·have G:=y.lim i u V;exact U b (y.new i u b z[i] V J (List.getElem?_eq_getElem G)).2.1
def Rj{b:Bool}{m:Nat}{o:Option (SV×Fr)}{r:SV}{fr':Fr}(h:qI b m o=some (r,fr')):o=some (r,fr')\/(m=0/\fr'=[]/\∃v u x,o=some (v,u)/\jq u deep v=some x/\r=.t x):=by
 unfold qI at h;split at h
 ·exact .inl h
 ·split at h
  ·cases h
  ·rename_i v u;split at h
   ·split at h
    ·rename_i x y;cases h;exact .inr ⟨rfl,rfl,v,u,x,rfl,y,rfl⟩
    ·exact .inl h
   ·exact .inl h
def aw.My{fr:Fr}{L:Ls}{w:World}(h:aw γ κ fr L w):aw γ ⟨κ.M,κ.X,fun b=>κ.H b/\b <κ.W.heap.size,κ.W,κ.L⟩ fr L w where
 glob:=h.glob
 gn:=h.gn
 gx:=h.gx
 fresh:=h.fresh
 os:=h.os
 tape:=h.tape
 output:=h.output
 size:=h.size
 kept:=h.kept
 lim:=h.lim
 new:=fun i v b y h1 h2 h3=>by
  obtain⟨z,D,G,I⟩:=h.new i v b y h1 h2 h3;refine⟨z,D,?_,I⟩;rcases Nat.lt_or_ge b κ.W.heap.size with u|u
  ·exact G.imp (fun q=>q) fun q=>⟨q,u⟩
  ·exact .inl u
 dis:=h.dis
 hand:=h.hand
 blk:=h.blk
def aw.Ru{fr:Fr}{L:Ls}{w:World}(h:aw γ ⟨κ.M,κ.X,fun b=>κ.H b/\b <κ.W.heap.size,κ.W,κ.L⟩ fr L w):aw γ κ fr L w where
 glob:=h.glob
 gn:=h.gn
 gx:=h.gx
 fresh:=h.fresh
 os:=h.os
 tape:=h.tape
 output:=h.output
 size:=h.size
 kept:=h.kept
 lim:=h.lim
 new:=fun i v b u h1 h2 h3=>by
  obtain⟨y,z,D,G⟩:=h.new i v b u h1 h2 h3;exact⟨y,z,D.imp (fun q=>q) fun q=>q.1,G⟩
 dis:=h.dis
 hand:=h.hand
 blk:=h.blk
def IK{P:Program}{f:Nat}{args:List SV}{fr:Fr}{r:SV}{fr':Fr}(h:∀(κ:Ctx) (w:World) (us:Array Value),¬κ.H κ.W.heap.size->aw γ κ fr κ.L w->κ.W=w->us.size=args.length->(∀(j:Nat) (x:SV) (u:Value),args[j]?=some x->us[j]?=some u->SR (MA κ.M fr κ.L) κ.L w x u)->
  Calls P f us w fun e w'=>∃v L',e=.returned v/\aw γ κ fr' L' w'/\SR (MA κ.M fr' L') L' w' r v):∀(κ:Ctx) (w:World) (us:Array Value),aw γ κ fr κ.L w->κ.W=w->us.size=args.length->(∀(j:Nat) (x:SV) (u:Value),args[j]?=some x->us[j]?=some u->SR (MA κ.M fr κ.L) κ.L w x u)->
  Calls P f us w fun e w'=>∃v L',e=.returned v/\aw γ κ fr' L' w'/\SR (MA κ.M fr' L') L' w' r v:=fun κ w us z G y D=>
 (h ⟨κ.M,κ.X,fun b=>κ.H b/\b <κ.W.heap.size,κ.W,κ.L⟩ w us (fun h=>absurd h.2 (Nat.lt_irrefl _)) z.My G y D).mono fun _ _ ⟨v,L',h1,h2,h3⟩=>⟨v,L',h1,h2.Ru,h3⟩
def IM(hW:Wf g γ){m:Nat}(hS:eK g.P γ (cV g m))(hL:sJ g γ (dP g m)):eK g.P γ (cV g (m+1)):=fun f z fr r fr' h=>by
 unfold cV at h;split at h
 ·-- a contract
  split at h
  ·rename_i xs aq;obtain⟨hk,hc⟩:=hW.ext f xs r fr' h;refine⟨hk,fun κ w J hC hw I hr=>?_⟩;obtain⟨p1,p2⟩:=r6 (A:=MA κ.M [] κ.L) (L:=κ.L) (w:=w) aq
   exact hc κ w J hC hw (by rw[I,p1]) fun j x u hx hu=>by
    obtain⟨s,hs⟩:=aj (xs:=z) (k:=j) (by rw[p1];exact aC hx);exact p2 j s x u hs hx (hr j s u hs hu)
  ·exact hW.exh _ _ _ _ _ h
 ·rename_i an;split at h
  ·cases h
  ·rename_i fn U;split at h
   ·rename_i c hb;have G:=hW.tA f an;unfold qO at G;rw[U]at G;simp only[hb]at G;rw[Bool.and_eq_true,Bool.and_eq_true,Bool.not_eq_true',Nat.ble_eq]at G;obtain⟨⟨ao,al⟩,ad⟩:=G;split at h
    ·cases h
    ·rename_i ag;rw[Nat.ble_eq]at ag;refine⟨⟨fn,U,al,by rw[hb];rfl⟩,IK fun κ w J ai hC hw I hr=>callsIn_wide.1 (callsIn_of_wp_marks (F:=Fence.wide) (n:=0) U hb trivial ?_)⟩
     have hA:At γ κ fn.ntmps (kY z) fr {tmps:=J++Array.replicate (fn.ntmps - J.size) undef,defers:=[]} w:=by
      refine⟨Marks.nil,by simp[I];omega,κ.L,hC,fun t=>?_⟩;show SR _ _ w (kY z t) _
      unfold kY
      cases hx:z[t]? with
      |none=>exact .dead _
      |some x=>
       have ht:t <J.size:=by rw[I];exact aC hx
       have h1:=hr t x J[t] hx (Array.getElem?_eq_getElem ht);show SR _ _ w x ((J++_).getD t undef)
       rw[Array.getD_eq_getD_getElem?,Array.getElem?_append_left ht,Array.getElem?_eq_getElem ht];exact h1
     have done:∀{o:Out} {e:Env} {q:Fr},bB g f (cV g m) (dP g m) c (kY z) fr=some (o,e,q)->(o=.normal\/o=.ret)->qI (g.tre f) fr.length (nC fr.length (oV g.P e q (f_ fn.results.toList)) q)=some (r,fr')->Code.wpIn Fence.wide 0 g.P c (bodyPostM Fence.wide 0 g.P fn fun e w'=>∃v L',e=.returned v/\aw γ κ fr' L' w'/\SR (MA κ.M fr' L') L' w' r v) {tmps:=J++Array.replicate (fn.ntmps - J.size) undef,defers:=[]} w:=fun{o e q} D ho ab=>by
      refine wpIn_mono (vF hW.mixed hS hL hW.seq c _ _ _ _ _ D ao κ none 0 _ w (.inl ⟨rfl,ai⟩) hA) fun ex a w' ⟨he,⟨⟨Ds,n1,n2,n3⟩,_⟩,h3,L,h4,h5⟩=>?_
      have au:LeavesInM Fence.wide 0 g.P fn a.tmps (fun e w'=>∃v L',e=.returned v/\aw γ κ fr' L' w'/\SR (MA κ.M fr' L') L' w' r v) a.defers .returning w':=by
       rw[n2];refine zP Ds w' n1 n3 fun aB hq=>?_;rcases Rj ab with y|⟨av,rfl,r1,ex,x,y,htx,rfl⟩
       ·unfold nC at y;split at y
        ·rename_i r0 V;obtain⟨v,hv,Z⟩:=AM (h4.lq hq) (fun t=>(h5 t).lq hq) V ad;obtain⟨L',f1,f2⟩:=zq (h4.lq hq) (fun j u hj=>hC.lim j u hj) y Z;exact⟨v,hv,v,L',rfl,f1,f2⟩
        ·cases y
       ·unfold nC at y;split at y
        ·rename_i r0 V;obtain⟨v,hv,Z⟩:=AM (h4.lq hq) (fun t=>(h5 t).lq hq) V ad;obtain⟨L',f1,f2⟩:=zq (h4.lq hq) (fun j u hj=>hC.lim j u hj) y Z;obtain⟨L2,f3,f4⟩:=Rk f1 (fun j u hj=>by have:=hC.lim j u hj;omega) htx f2;exact⟨v,hv,v,L2,rfl,f3,f4⟩
        ·cases y
      rcases ho with rfl|rfl <;>(subst he;exact au)
     split at h
     ·rename_i e q D;exact done D (.inl rfl) h
     ·rename_i e q D;exact done D (.inr rfl) h
     ·cases h
   ·cases h
def yd{F:Fence}{dn:Nat}{P:Program}{Q:Exit->Act->World->Prop}{a:Act}{w:World}{c:Code}(I:Nat->Act->World->Prop)(G:Nat)(U:I G a w)
  (round:∀n a w,I n a w->c.wpIn F dn P (Exit.then (fun z w'=>∃y,y <n/\I y z w') Q) a w):(Code.loop c).wpIn F dn P Q a w:=by
 refine wpIn_loop (fun a w=>∃n,I n a w) (fun a w=>leastOf (fun n=>I n a w)) ⟨G,U⟩ ?_;intro a w J;refine wpIn_mono (round _ a w (leastOf_spec J).1) ?_;intro e z w' v
 cases e with
 |normal=>
  obtain⟨y,D,u⟩:=v;exact show(∃n,I n z w')/\leastOf (fun n=>I n z w')<leastOf (fun n=>I n a w) from⟨⟨y,u⟩,Nat.lt_of_le_of_lt ((leastOf_spec ⟨y,u⟩).2 y u) D⟩
 |exit id=>exact v
 |goto l=>exact v
 |ret=>exact v
 |panic V=>exact v
 |outgrown=>exact v
def MM(hW:Wf g γ){m:Nat}(V:∀k,k <m->eK g.P γ (cV g k))(U:∀k,k <m->sJ g γ (dP g k)):sJ g γ (dP g m):=fun f b env fr o v fr' h n D κ rd dn a w z y=>by
 refine yd (fun k a w=>k<=m/\∃env fr,dP g k f b env fr=some (o,v,fr')/\At γ κ n env fr a w) m ⟨Nat.le_refl _,env,fr,h,y⟩ fun k a w ⟨hk,env,fr,h,y⟩=>?_
 cases k with
 |zero=>unfold dP at h;cases h
 |succ k=>
  unfold dP at h;split at h
  ·rename_i e r I;refine wpIn_mono (vF hW.mixed (V k (by omega)) (U k (by omega)) hW.seq b _ _ _ _ _ I D κ rd dn a w z y) fun ex Z w' ⟨G,u⟩=>?_;subst G;exact⟨k,Nat.lt_succ_self k,by omega,_,_,h,u.head y.handed⟩
  ·rename_i J;refine wpIn_mono (vF hW.mixed (V k (by omega)) (U k (by omega)) hW.seq b _ _ _ _ _ h D κ rd dn a w z y) fun ex Z w' ⟨G,u⟩=>?_;subst G
   cases o with
   |normal=>exact absurd h (J _ _)
   |exit id=>exact⟨rfl,u⟩
   |ret=>exact⟨rfl,u⟩
def sound(hW:Wf g γ):∀m,eK g.P γ (cV g m)/\sJ g γ (dP g m):=fun m=>by
 induction m using Nat.strongRecOn with
 |_ m ih=>
  have y:=MM hW (fun k u=>(ih k u).1) (fun k u=>(ih k u).2)
  cases m with
  |zero=>exact⟨(fun f v fr r fr' h=>by unfold cV at h;cases h),y⟩
  |succ m=>exact⟨IM hW (ih m (Nat.lt_succ_self m)).1 (ih m (Nat.lt_succ_self m)).2,y⟩
end
def R8{P:Program}{o:Oper}{c:Operand}{args:Array Operand}{tys:Array TypeId}{a:Act}{w:World}{l m:Nat}{R:Ending->World->Prop}{K:Act->World->Prop}{Q:Exit->Act->World->Prop}
  (ho:o.op=.call ⟨.value c,args,tys⟩)(hc:a.eval c=.func (.yield l) #[] #[])(hy:∀m,YieldAt (Fw none) m P l (args.map a.eval) w R)(z:∀e w',R e w'->∃v,e=.returned v/\K (a.put o.dst v) w'):o.wpIn (Fw none) m P a w K Q:=by
 refine⟨fun _ _=>trivial,?_⟩;obtain⟨fn,u,asg,body,h1,h2⟩:=hy (m - 1)
 have e:(o.semAt (Fw none).round a.eval).run P w=.ok (.round l fn u asg body) w:=by
  show(o.semAt none a.eval).run P w=_
  simp[Oper.semAt,execOp,ho,resolve,Deferred.ofValue,hc,invoke,Sem.run_bind,pure,Sem.run,callFunc,h1]
 rw[e];refine⟨(fun h=>by cases h),h2.mono ?_⟩;intro y w' G;obtain⟨v,rfl,D⟩:=z y w' G;exact D
def ju(C C':CallF):Prop:=∀f u fr x,C f u fr=some x->C' f u fr=some x
def yn(Lp Lp':LoopF):Prop:=∀f b env fr x,Lp f b env fr=some x->Lp' f b env fr=some x
section
variable {g:Cfg} {C C':CallF} {Lp Lp':LoopF}
def IE(h:ju C C'){G:Bool}{fr:Fr}{f:Nat}{args:List SV}{x:eZ}(hx:iE g C G fr f args=some x):iE g C' G fr f args=some x:=by
 unfold iE at hx⊢;split at hx
 ·cases hx
 ·rename_i xs D
  try simp only[D]
  split at hx
  ·rename_i z
   try simp only[z]
   split at hx
   ·cases hx
   ·rename_i r I v;rw[h _ _ _ _ v];exact hx
  ·rename_i J U z
   try simp only[z]
   split at hx
   ·cases hx
   ·simp only at hx⊢;split at hx
    ·cases hx
    ·rename_i bs u
     try simp only[u]
     split at hx
     ·cases hx
     ·rename_i y
      try simp only[y]
      split at hx
      ·cases hx
      ·rename_i r fr' v;rw[h _ _ _ _ v];exact hx
def C4(h:ju C C'){u:Bool}{env:Env}{fr:Fr}{op:Op}{x:eZ}(hx:ca g C u env fr op=some x):ca g C' u env fr op=some x:=by
 unfold ca at hx⊢;split at hx <;>first|exact hx|skip
 ·unfold nu at hx⊢;split at hx
  ·cases hx
  ·rename_i v
   try simp only[v]
   exact IE h hx
def ng(h:ju C C'){d:Option (List Nat)}{i:Nat}{env:Env}{fr:Fr}{op:Op}{x:eZ}(hx:step g C d i env fr op=some x):step g C' d i env fr op=some x:=by
 have u:∀{x},cd g C env fr op=some x->cd g C' env fr op=some x:=fun{x} hx=>by
  unfold cd at hx⊢;split at hx
  ·exact C4 h hx
  ·exact hx
 have v:∀{x},ig g C env fr op=some x->ig g C' env fr op=some x:=fun{x} hx=>by
  unfold ig at hx⊢;split at hx
  ·exact C4 h hx
  ·exact hx
 unfold step at hx⊢;split at hx
 ·exact u hx
 ·split at hx
  ·exact u hx
  ·exact v hx
theorem mE(h:ju C C'){d:Option (List Nat)}{ops:Array Oper}{x:Env×Fr}:∀(l:List Oper) (i:Nat) (env:Env) (fr:Fr),d_ g C d ops i l env fr=some x->d_ g C' d ops i l env fr=some x
 |[],_,_,_,u=>u
 |o::l,i,env,fr,u=>by
  unfold d_ at u⊢;split at u
  ·split at u
   ·rename_i v;rw[ng h v];exact mE h l _ _ _ u
   ·cases u
  ·split at u
   ·cases u
   ·rename_i y
    try simp only[y]
    split at u
    ·rename_i v;rw[ng h v];exact mE h l _ _ _ u
    ·cases u
   ·rename_i y
    try simp only[y]
    exact mE h l _ _ _ u
theorem lF(h:ju C C'){effs:List Nat}{ops:Array Oper}{x:Env×Fr}:∀(l:List Oper) (i:Nat) (env:Env) (fr:Fr),gz g C effs ops i l env fr=some x->gz g C' effs ops i l env fr=some x
 |[],_,_,_,u=>u
 |o::l,i,env,fr,u=>by
  unfold gz at u⊢;split at u
  ·cases u
  ·rename_i z
   try simp only[z]
   split at u
   ·split at u
    ·rename_i v;rw[ng h v];exact lF h l _ _ _ u
    ·cases u
   ·split at u
    ·cases u
    ·rename_i y
     try simp only[y]
     split at u
     ·rename_i v;rw[ng h v];exact lF h l _ _ _ u
     ·cases u
    ·rename_i y
     try simp only[y]
     exact lF h l _ _ _ u
def Kl(h:ju C C'){k:Nat}{ops:Array Oper}{env:Env}{fr:Fr}{x:Env×Fr}(hx:th g C k ops env fr=some x):th g C' k ops env fr=some x:=by
 unfold th at hx⊢;split at hx
 ·cases hx
 ·rename_i z
  try simp only[mE h _ _ _ _ z]
  split at hx
  ·cases hx
  ·rename_i y
   try simp only[y]
   split at hx
   ·cases hx
   ·rename_i v
    try simp only[v]
    split at hx
    ·cases hx
    ·rename_i u
     try simp only[u]
     exact mE h _ _ _ _ hx
def Km(h:ju C C'){effs:List Nat}{ops:Array Oper}{env:Env}{fr:Fr}{x:Env×Fr}(hx:pV g C effs ops env fr=some x):pV g C' effs ops env fr=some x:=by
 unfold pV at hx⊢;split at hx
 ·cases hx
 ·split at hx
  ·cases hx
  ·rename_i u;simp only[lF h _ _ _ _ u];exact hx
def C3(h:ju C C'){env:Env}{fr:Fr}{op:Op}{x:eZ}(hx:cd g C env fr op=some x):cd g C' env fr op=some x:=ng (d:=none) (i:=0) h hx
def Kn(h:ju C C'){m:Nat}{effs:List Nat}{ops:Array Oper}{env:Env}{fr:Fr}{x:Env×Fr}(hx:pW g C m effs ops env fr=some x):pW g C' m effs ops env fr=some x:=by
 unfold pW at hx⊢;split at hx
 ·cases hx
 ·rename_i D;simp only[lF h _ _ _ _ D];split at hx
  ·cases hx
  ·rename_i z
   try simp only[z]
   split at hx
   ·cases hx
   ·rename_i v
    try simp only[v]
    split at hx
    ·cases hx
    ·rename_i u
     try simp only[C3 h u]
     split at hx
     ·rename_i y
      try simp only[y]
      exact lF h _ _ _ _ hx
     ·cases hx
def Ko(h:ju C C'){f id:Nat}{ops:Array Oper}{u:Bool}{env:Env}{fr:Fr}{x:Env×Fr}(hx:mF g f C id ops u env fr=some x):mF g f C' id ops u env fr=some x:=by
 unfold mF at hx⊢
 cases u with
 |false=>
  simp only at hx⊢;split at hx
  ·rename_i v
   try simp only[v]
   exact mE h _ _ _ _ hx
  ·rename_i v
   try simp only[v]
   exact Kl h hx
 |true=>
  simp only at hx⊢;split at hx
  ·rename_i v
   try simp only[v]
   exact mE h _ _ _ _ hx
  ·rename_i v
   try simp only[v]
   exact lF h _ _ _ _ hx
  ·rename_i v
   try simp only[v]
   exact Km h hx
  ·rename_i v
   try simp only[v]
   exact Kn h hx
  ·cases hx
def AW{lv:Option (List Nat)}{A B A' u:Env->Fr->Option (Out×Env×Fr)}(z:∀e r x,A e r=some x->A' e r=some x)(D:∀e r x,B e r=some x->u e r=some x){v:List Nat}{y:List AV}{env:Env}{fr:Fr}{x:Out×Env×Fr}(h:lW lv A B v y env fr=some x):lW lv A' u v y env fr=some x:=by
 unfold lW at h⊢;split at h
 ·cases h
 rename_i h1
 try simp only[h1]
 split at h
 ·cases h
 rename_i h2
 try simp only[h2]
 split at h
 ·rename_i h3;rw[z _ _ _ h3];simp only;split at h
  ·cases h
  ·rename_i h4;rw[D _ _ _ h4];exact h
 ·cases h
theorem AX{lv:Option (List Nat)}{A B A' D:Env->Fr->Option (Out×Env×Fr)}(u:∀e r x,A e r=some x->A' e r=some x)(v:∀e r x,B e r=some x->D e r=some x){G:List Nat}{wh:Bool}:∀(yss:List (List AV)) (env:Env) (fr:Fr) (x:Out×Env×Fr),k8 lv A B G wh yss env fr=some x->k8 lv A' D G wh yss env fr=some x
 |[],env,fr,x,h=>h
 |y::I,env,fr,x,h=>by
  unfold k8 at h⊢;split at h
  ·rename_i h1;rw[AW u v h1];exact AX u v I _ _ _ h
  ·rename_i z;rw[AW u v h];obtain⟨o,e,r⟩:=x
   cases o with
   |normal=>exact absurd h (z _ _)
   |exit id=>rfl
   |ret=>rfl
def jG(h:ju C C')(I:yn Lp Lp'){f:Nat}:∀(c:Code) (env:Env) (fr:Fr) (x:Out×Env×Fr),bB g f C Lp c env fr=some x->bB g f C' Lp' c env fr=some x:=by
 intro c
 induction c with
 |region id ops G=>
  intro env fr x u;unfold bB at u⊢;split at u
  ·rename_i e r V;rw[Ko h V];exact u
  ·cases u
 |seq a b v y=>
  intro env fr x u;unfold bB at u⊢;split at u
  ·rename_i e r J;rw[v _ _ _ J];exact y _ _ _ u
  ·rename_i z;rw[v _ _ _ u];obtain⟨o,e,r⟩:=x
   cases o with
   |normal=>exact absurd u (z _ _)
   |exit id=>rfl
   |ret=>rfl
 |cond c a b v y=>
  intro env fr x u;unfold bB at u⊢;split at u
  ·exact v _ _ _ u
  ·exact y _ _ _ u
  ·cases u
 |block id b D=>
  intro env fr x u;unfold bB at u⊢;split at u
  ·rename_i i e r U;rw[D _ _ _ U];exact u
  ·rename_i z;rw[D _ _ _ u];obtain⟨o,e,r⟩:=x
   cases o with
   |normal=>rfl
   |exit id=>exact absurd u (z _ _ _)
   |ret=>rfl
 |loop b D=>intro env fr x u;unfold bB at u⊢;exact I _ _ _ _ _ u
 |rangeFunc op Z asg body v y=>
  intro env fr x u;unfold bB at u⊢;split at u
  ·rename_i h1
   try simp only[h1]
   split at u
   ·cases u
   ·rename_i h2
    try simp only[h2]
    split at u
    ·cases u
    ·rename_i h3
     try simp only[h3]
     exact AX (fun e r x q=>v e r x q) (fun e r x q=>y e r x q) _ _ _ _ u
  ·cases u
 |_=>intro env fr x u;unfold bB at u⊢;exact u
theorem z7:∀n,ju (cV g n) (cV g (n+1))/\yn (dP g n) (dP g (n+1))
 |0=>⟨(fun f v fr x h=>by unfold cV at h;cases h),(fun f b env fr x h=>by unfold dP at h;cases h)⟩
 |n+1=>by
  obtain⟨h1,h2⟩:=z7 n;refine⟨fun f v fr x h=>?_,fun f b env fr x h=>?_⟩
  ·unfold cV at h⊢;split at h
   ·exact h
   ·split at h
    ·cases h
    ·rename_i z
     try simp only[z]
     split at h
     ·rename_i G
      try simp only[G]
      split at h
      ·cases h
      ·rename_i y
       try simp only[y]
       split at h
       ·rename_i u;rw[jG h1 h2 _ _ _ _ u];exact h
       ·rename_i u;rw[jG h1 h2 _ _ _ _ u];exact h
       ·cases h
     ·cases h
  ·unfold dP at h⊢;split at h
   ·rename_i u;rw[jG h1 h2 _ _ _ _ u];exact h2 _ _ _ _ _ h
   ·rename_i D;rw[jG h1 h2 _ _ _ _ h];obtain⟨o,e,r⟩:=x
    cases o with
    |normal=>exact absurd h (D _ _)
    |exit id=>rfl
    |ret=>rfl
def e_{n m:Nat}(h:n<=m):ju (cV g n) (cV g m):=by
 induction m with
 |zero=>
   obtain rfl:n=0:=by omega
   exact fun _ _ _ _ h=>h
 |succ m y=>
  rcases Nat.lt_or_ge m n with h1|h1
  ·obtain rfl:n=m+1:=by omega
   exact fun _ _ _ _ h=>h
  ·exact fun f u fr x v=>(z7 m).1 _ _ _ _ (y h1 _ _ _ _ v)
def mN{n m:Nat}(h:n<=m):yn (dP g n) (dP g m):=by
 induction m with
 |zero=>
   obtain rfl:n=0:=by omega
   exact fun _ _ _ _ _ h=>h
 |succ m v=>
  rcases Nat.lt_or_ge m n with h1|h1
  ·obtain rfl:n=m+1:=by omega
   exact fun _ _ _ _ _ h=>h
  ·exact fun f b env fr x u=>(z7 m).2 _ _ _ _ _ (v h1 _ _ _ _ _ u)
end
def Cl(g:Cfg)(f:Nat)(args:List SV)(fr:Fr)(r:SV)(fr':Fr):Prop:=∃n,cV g n f args fr=some (r,fr')
def am(g:Cfg)(f:Nat)(c:Code)(env:Env)(fr:Fr)(K:Out->Env->Fr->Prop):Prop:=∃n o e r,bB g f (cV g n) (dP g n) c env fr=some (o,e,r)/\K o e r
def ax(g:Cfg)(f:Nat)(b:Code)(env:Env)(fr:Fr)(K:Out->Env->Fr->Prop):Prop:=∃n o e r,dP g n f b env fr=some (o,e,r)/\K o e r
def aa(g:Cfg)(d:Option (List Nat))(ops:Array Oper)(i:Nat)(l:List Oper)(env:Env)(fr:Fr)(K:Env->Fr->Prop):Prop:=∃n e r,d_ g (cV g n) d ops i l env fr=some (e,r)/\K e r
def az(g:Cfg)(effs:List Nat)(ops:Array Oper)(i:Nat)(l:List Oper)(env:Env)(fr:Fr)(K:Env->Fr->Prop):Prop:=∃n e r,gz g (cV g n) effs ops i l env fr=some (e,r)/\K e r
def ac(g:Cfg)(d:Option (List Nat))(i:Nat)(env:Env)(fr:Fr)(op:Op)(x:SV)(fr':Fr)(ks:List Nat):Prop:=∃n,step g (cV g n) d i env fr op=some (x,fr',ks)
def ma(P:Env->Fr->Prop)(K:Out->Env->Fr->Prop):Out->Env->Fr->Prop
 | .normal,e,r=>P e r
 |o,e,r=>K o e r
def mz(id:Nat)(K:Out->Env->Fr->Prop):Out->Env->Fr->Prop
 | .exit i,e,r=>match Nat.beq i id with
  |true=>K .normal e r
  |false=>K (.exit i) e r
 |o,e,r=>K o e r
section
variable {g:Cfg} {f:Nat} {env:Env} {fr:Fr} {K:Out->Env->Fr->Prop}
def am.post{c:Code}{K':Out->Env->Fr->Prop}(h:am g f c env fr K)(u:∀o e r,K o e r->K' o e r):am g f c env fr K':=by
 obtain⟨n,o,e,r,h1,h2⟩:=h;exact⟨n,o,e,r,h1,u _ _ _ h2⟩
theorem am.skip(h:K .normal env fr):am g f .skip env fr K:=⟨0,.normal,env,fr,by unfold bB;rfl,h⟩
theorem am.exit{id:Nat}(h:K (.exit id) env fr):am g f (.exit id) env fr K:=⟨0,.exit id,env,fr,by unfold bB;rfl,h⟩
theorem am.ret(h:K .ret env fr):am g f .ret env fr K:=⟨0,.ret,env,fr,by unfold bB;rfl,h⟩
theorem am.seq{a b:Code}(h:am g f a env fr (ma (fun e r=>am g f b e r K) K)):am g f (.seq a b) env fr K:=by
 obtain⟨n,o,e,r,h1,h2⟩:=h
 cases o with
 |normal=>
  obtain⟨m,o,u,v,h3,h4⟩:=h2;refine⟨max n m,o,u,v,?_,h4⟩;unfold bB;rw[jG (e_ (Nat.le_max_left n m)) (mN (Nat.le_max_left n m)) _ _ _ _ h1];exact jG (e_ (Nat.le_max_right n m)) (mN (Nat.le_max_right n m)) _ _ _ _ h3
 |exit id=>exact⟨n,_,e,r,by unfold bB;rw[h1],h2⟩
 |ret=>exact⟨n,_,e,r,by unfold bB;rw[h1],h2⟩
theorem am.cond{c:Operand}{a b:Code}{t:Bool}(hc:rd env c=.t (.bool t))(ha:t=true->am g f a env fr K)(hb:t=false->am g f b env fr K):am g f (.cond c a b) env fr K:=by
 cases t with
 |true=>obtain⟨n,o,e,r,h1,h2⟩:=ha rfl;exact⟨n,o,e,r,by unfold bB;rw[hc];exact h1,h2⟩
 |false=>obtain⟨n,o,e,r,h1,h2⟩:=hb rfl;exact⟨n,o,e,r,by unfold bB;rw[hc];exact h1,h2⟩
theorem am.block{id:Nat}{b:Code}(h:am g f b env fr (mz id K)):am g f (.block id b) env fr K:=by
 obtain⟨n,o,e,r,h1,h2⟩:=h
 cases o with
 |normal=>exact⟨n,_,e,r,by unfold bB;rw[h1],h2⟩
 |ret=>exact⟨n,_,e,r,by unfold bB;rw[h1],h2⟩
 |exit i=>
  unfold mz at h2;simp only at h2;split at h2
  ·rename_i u;exact⟨n,.normal,e,r,by unfold bB;rw[h1];simp only[u],h2⟩
  ·rename_i u;exact⟨n,.exit i,e,r,by unfold bB;rw[h1];simp only[u],h2⟩
def am.text{id:Nat}{l:List Oper}(hm:g.eff f id=[])(h:aa g none l.toArray 0 l env fr fun e r=>K .normal e r):am g f (.region id l.toArray false) env fr K:=by
 obtain⟨n,e,r,h1,h2⟩:=h;exact⟨n,.normal,e,r,by unfold bB mF;simp only[hm];rw[h1],h2⟩
def am.drawn{id:Nat}{l:List Oper}(hm:pQ (g.eff f id)=0)(h:aa g (some (g.eff f id)) l.toArray 0 l env fr fun e r=>K .normal e r):am g f (.region id l.toArray true) env fr K:=by
 obtain⟨n,e,r,h1,h2⟩:=h;exact⟨n,.normal,e,r,by unfold bB mF;simp only[hm];rw[h1],h2⟩
def am.vy{id:Nat}{l:List Oper}(hm:pQ (g.eff f id)=1)(h:az g (g.eff f id) l.toArray 0 l env fr fun e r=>K .normal e r):am g f (.region id l.toArray true) env fr K:=by
 obtain⟨n,e,r,h1,h2⟩:=h;exact⟨n,.normal,e,r,by unfold bB mF;simp only[hm];rw[h1],h2⟩
def am.vx{id:Nat}{l:List Oper}{N:Nat}{r:List Nat}(hm:pQ (g.eff f id)=4)(he:rB (g.eff f id)=N::r)(h:az g (N::r) l.toArray 0 l env fr fun e r=>pU fr.length (yV (l.take N)) e r=true/\K .normal e r):am g f (.region id l.toArray true) env fr K:=by
 obtain⟨n,e,r,h1,h2,h3⟩:=h;refine⟨n,.normal,e,r,?_,h3⟩;unfold bB mF;simp only[hm,he];unfold pV;simp only[h1,h2]
def BK(g:Cfg)(effs:List Nat)(ops:Array Oper)(m:Nat)(o:Oper)(l:List Oper)(env:Env)(fr:Fr)(K:Env->Fr->Prop):Prop:=∃n x r ks,cd g (cV g n) env fr o.op=some (x,r,ks)/\rJ effs ops m env fr o ks=true/\az g effs ops (m+1) l (aH (dG ks env) o.dst x) r K
def am.CV{id m:Nat}{l y l2:List Oper}{effs:List Nat}{o:Oper}(hm:pQ (g.eff f id)=5)(he:rB (g.eff f id)=effs)(hk:zD (g.eff f id)=m)(ht:l.take m=y)(hd:l.drop m=o::l2)(hg:o.guard=none)(h:az g effs l.toArray 0 y env fr fun e r=>BK g effs l.toArray m o l2 e r fun e r=>K .normal e r):am g f (.region id l.toArray true) env fr K:=by
 subst he hk ht;obtain⟨n,e,r,h1,u,x,I,ks,h2,h3,v,z,G,h4,D⟩:=h;refine⟨max n (max u v),.normal,z,G,?_,D⟩;unfold bB mF;simp only[hm];unfold pW;simp only[lF (e_ (Nat.le_max_left n _)) _ _ _ _ h1,hd,hg,C3 (e_ (Nat.le_trans (Nat.le_max_left u v) (Nat.le_max_right n _))) h2,h3,lF (e_ (Nat.le_trans (Nat.le_max_right u v) (Nat.le_max_right n _))) _ _ _ _ h4]
theorem am.loop{b:Code}{p:Env×Fr}(hp:gS (g.own f (db b)) env fr=p){q:Env×Fr}(hq:head (g.lv f (db b)) p.2.length p.1 p.2=q)(h:ax g f b q.1 q.2 K):am g f (.loop b) env fr K:=by
 subst hp hq;obtain⟨n,o,e,r,h1,h2⟩:=h;exact⟨n,o,e,r,by unfold bB;exact h1,h2⟩
def ax.step{b:Code}(h:am g f b env fr (ma (fun e r=>ax g f b (head (g.lv f (db b)) fr.length e r).1 (head (g.lv f (db b)) fr.length e r).2 K) K)):ax g f b env fr K:=by
 obtain⟨n,o,e,r,h1,h2⟩:=h
 cases o with
 |normal=>
  obtain⟨m,o,u,v,h3,h4⟩:=h2;refine⟨max n m+1,o,u,v,?_,h4⟩;unfold dP;rw[jG (e_ (Nat.le_max_left n m)) (mN (Nat.le_max_left n m)) _ _ _ _ h1];exact mN (Nat.le_max_right n m) _ _ _ _ _ h3
 |exit id=>exact⟨n+1,_,e,r,by unfold dP;rw[h1],h2⟩
 |ret=>exact⟨n+1,_,e,r,by unfold dP;rw[h1],h2⟩
def Cl.aq{args:List SV}{r:SV}{fr':Fr}{fn:Func}{c:Code}{y:List (Nat×Option Nat)}(hok:g.ok f=true)(hf:g.P.funcs[f]?=some fn)(hb:fn.body=some c)(v:f_ fn.results.toList=y)(u:Nat.ble args.length fn.ntmps=true)
  (h:am g f c (kY args) fr fun o e q=>(o=.normal\/o=.ret)/\nC fr.length (oV g.P e q y) q=some (r,fr'))(ht:g.tre f=false:=by rfl):Cl g f args fr r fr':=by
 subst v;obtain⟨n,o,e,q,h1,h2,h3⟩:=h;refine⟨n+1,?_⟩;unfold cV;simp only[hok,hf,hb,u,h1,ht,qI];rcases h2 with rfl|rfl <;>exact h3
def Cl.cL{args:List SV}{fn:Func}{c:Code}{y:List (Nat×Option Nat)}{x:AV}(hok:g.ok f=true)(hf:g.P.funcs[f]?=some fn)(hb:fn.body=some c)(v:f_ fn.results.toList=y)(u:Nat.ble args.length fn.ntmps=true)
  (h:am g f c (kY args) [] fun o e q=>(o=.normal\/o=.ret)/\qI true 0 (nC 0 (oV g.P e q y) q)=some (.t x,[]))(ht:g.tre f=true:=by rfl):Cl g f args [] (.t x) []:=by
 subst v;obtain⟨n,o,e,q,h1,h2,h3⟩:=h;refine⟨n+1,?_⟩;unfold cV;simp only[hok,hf,hb,u,h1,ht,List.length_nil];rcases h2 with rfl|rfl <;>exact h3
variable {d:Option (List Nat)} {ops:Array Oper} {i:Nat} {K':Env->Fr->Prop}
def aa.nil(h:K' env fr):aa g d ops i [] env fr K':=⟨0,env,fr,rfl,h⟩
def aa.u{l:List Oper}{dst:Option Tmp}{op:Op}{ty:TypeId}{pos:String}{after:Array Edge}{x:SV}{fr':Fr}{ks:List Nat}(hx:ac g d i env fr op x fr' ks)(h:aa g d ops (i+1) l (aH (dG ks env) dst x) fr' K'):aa g d ops i (⟨dst,op,ty,pos,after,none⟩::l) env fr K':=by
 obtain⟨n,h1⟩:=hx;obtain⟨m,e,r,h2,h3⟩:=h;refine⟨max n m,e,r,?_,h3⟩;unfold d_;simp only;rw[ng (e_ (Nat.le_max_left n m)) h1];exact mE (e_ (Nat.le_max_right n m)) _ _ _ _ h2
def aa.gd{l:List Oper}{dst:Option Tmp}{op:Op}{ty:TypeId}{pos:String}{after:Array Edge}{j:Nat}{u W:Bool}{x:SV}(hW:cP ops env j u=some W)(hx:W=true->ac g d i env fr op x fr [])(h:aa g d ops (i+1) l (aH env dst (s8 W x)) fr K'):aa g d ops i (⟨dst,op,ty,pos,after,some (j,u)⟩::l) env fr K':=by
 obtain⟨m,e,r,h2,h3⟩:=h
 cases W with
 |false=>
  refine⟨m,e,r,?_,h3⟩;unfold d_;simp only[hW];exact h2
 |true=>
  obtain⟨n,h1⟩:=hx rfl;refine⟨max n m,e,r,?_,h3⟩;unfold d_;simp only[hW];rw[ng (e_ (Nat.le_max_left n m)) h1];exact mE (e_ (Nat.le_max_right n m)) _ _ _ _ h2
def aa.gt{l:List Oper}{dst:Option Tmp}{op:Op}{ty:TypeId}{pos:String}{after:Array Edge}{j:Nat}{u:Bool}{x:SV}{fr':Fr}{ks:List Nat}(hW:cP ops env j u=some true)(hx:ac g d i env fr op x fr' ks)(h:aa g d ops (i+1) l (aH (dG ks env) dst (.aV x)) fr' K'):aa g d ops i (⟨dst,op,ty,pos,after,some (j,u)⟩::l) env fr K':=by
 obtain⟨m,e,r,h2,h3⟩:=h;obtain⟨n,h1⟩:=hx;refine⟨max n m,e,r,?_,h3⟩;unfold d_;simp only[hW];rw[ng (e_ (Nat.le_max_left n m)) h1];exact mE (e_ (Nat.le_max_right n m)) _ _ _ _ h2
def aa.gf{l:List Oper}{dst:Option Tmp}{op:Op}{ty:TypeId}{pos:String}{after:Array Edge}{j:Nat}{u:Bool}(hW:cP ops env j u=some false)(h:aa g d ops (i+1) l (aH env dst .no) fr K'):aa g d ops i (⟨dst,op,ty,pos,after,some (j,u)⟩::l) env fr K':=by
 obtain⟨m,e,r,h2,h3⟩:=h;refine⟨m,e,r,?_,h3⟩;unfold d_;simp only[hW];exact h2
variable {effs:List Nat}
def az.nil(h:K' env fr):az g effs ops i [] env fr K':=⟨0,env,fr,rfl,h⟩
def az.u{l:List Oper}{dst:Option Tmp}{op:Op}{ty:TypeId}{pos:String}{after:Array Edge}{x:SV}{fr':Fr}(hfl:tx effs ops env i=true)(hx:ac g (some effs) i env fr op x fr' [])(h:az g effs ops (i+1) l (aH env dst x) fr' K'):az g effs ops i (⟨dst,op,ty,pos,after,none⟩::l) env fr K':=by
 obtain⟨n,h1⟩:=hx;obtain⟨m,e,r,h2,h3⟩:=h;refine⟨max n m,e,r,?_,h3⟩;unfold gz;simp only[hfl];rw[ng (e_ (Nat.le_max_left n m)) h1];exact lF (e_ (Nat.le_max_right n m)) _ _ _ _ h2
def az.gt{l:List Oper}{dst:Option Tmp}{op:Op}{ty:TypeId}{pos:String}{after:Array Edge}{j:Nat}{u:Bool}{x:SV}{fr':Fr}(hfl:tx effs ops env i=true)(hW:cP ops env j u=some true)(hx:ac g (some effs) i env fr op x fr' [])(h:az g effs ops (i+1) l (aH env dst (.aV x)) fr' K'):az g effs ops i (⟨dst,op,ty,pos,after,some (j,u)⟩::l) env fr K':=by
 obtain⟨n,h1⟩:=hx;obtain⟨m,e,r,h2,h3⟩:=h;refine⟨max n m,e,r,?_,h3⟩;unfold gz;simp only[hfl,hW];rw[ng (e_ (Nat.le_max_left n m)) h1];exact lF (e_ (Nat.le_max_right n m)) _ _ _ _ h2
def az.gf{l:List Oper}{dst:Option Tmp}{op:Op}{ty:TypeId}{pos:String}{after:Array Edge}{j:Nat}{u:Bool}(hfl:tx effs ops env i=true)(hW:cP ops env j u=some false)(h:az g effs ops (i+1) l (aH env dst .no) fr K'):az g effs ops i (⟨dst,op,ty,pos,after,some (j,u)⟩::l) env fr K':=by
 obtain⟨m,e,r,h2,h3⟩:=h;refine⟨m,e,r,?_,h3⟩;unfold gz;simp only[hfl,hW];exact h2
def az.DQ{m:Nat}{l:List Oper}{dst:Option Tmp}{op:Op}{ty:TypeId}{pos:String}{after:Array Edge}{x:SV}{fr':Fr}{ks:List Nat}(hx:ac g (some effs) m env fr op x fr' ks)(hk:rJ effs ops m env fr ⟨dst,op,ty,pos,after,none⟩ ks=true)(h:az g effs ops (m+1) l (aH (dG ks env) dst x) fr' K'):BK g effs ops m ⟨dst,op,ty,pos,after,none⟩ l env fr K':=by
 obtain⟨n,h1⟩:=hx;refine⟨n,x,fr',ks,?_,hk,h⟩
 have u:bS effs m=true:=by
  unfold rJ at hk;rw[Bool.and_eq_true]at hk;exact hk.1
 unfold step at h1;simp only[u]at h1;exact h1
def ac.r{op:Op}{x:SV}{fr':Fr}{ks:List Nat}(h:∀C,step g C d i env fr op=some (x,fr',ks)):ac g d i env fr op x fr' ks:=⟨0,h _⟩
end
end Go.Proofs.YtjolgbkkocjpgaaGreatDoor
