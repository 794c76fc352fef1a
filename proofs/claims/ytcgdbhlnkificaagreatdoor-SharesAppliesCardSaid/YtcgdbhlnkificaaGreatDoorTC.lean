/- The tree evaluator,18: regions that draw their order. No condition. -/
import Derived.Test.YtcgdbhlnkificaaGreatDoorTB
import Derived.RangeFuncSeq
set_option linter.all false
namespace Go.Proofs.YtcgdbhlnkificaaGreatDoor
open Go.RowKit
def o7(g:Cfg)(C:CallF)(d:Option (List Nat))(ops:Array Oper)(i:Nat)(o:Oper)(E:Env)(F:Fr)(E':Env)(v:Fr):Prop:=
 match o.guard with
 |none=>∃x ks,step g C d i E F o.op=some (x,v,ks)/\E'=aE (dR ks E) o.dst x
 |some (j,u)=>(cG ops E j u=some true/\∃x ks,step g C d i E F o.op=some (x,v,ks)/\E'=aE (dR ks E) o.dst (.aT x))\/(cG ops E j u=some false/\v=F/\E'=aE E o.dst .no)
theorem El{g:Cfg}{C:CallF}{d:Option (List Nat)}{ops:Array Oper}{env':Env}{fr':Fr}:∀(l:List Oper) (n:Nat) (env:Env) (fr:Fr),dQ g C d ops n l env fr=some (env',fr')->
  ∃(E:Nat->Env) (F:Nat->Fr),E 0=env/\F 0=fr/\(∀i o,l[i]?=some o->o7 g C d ops (n+i) o (E i) (F i) (E (i+1)) (F (i+1)))/\E l.length=env'/\F l.length=fr'
 |[],n,env,fr,h=>by
  unfold dQ at h;cases h;exact⟨fun _=>env',fun _=>fr',rfl,rfl,fun i o U=>by simp at U,rfl,rfl⟩
 |o::l,n,env,fr,h=>by
  have:∃z u,o7 g C d ops n o env fr z u/\dQ g C d ops (n+1) l z u=some (env',fr'):=by
   unfold dQ at h;unfold o7;split at h
   ·rename_i G;rw[G];split at h
    ·rename_i x u ks v;exact⟨_,u,⟨x,ks,v,rfl⟩,h⟩
    ·cases h
   ·rename_i j I G;rw[G];split at h
    ·cases h
    ·rename_i D;split at h
     ·rename_i x u ks v;exact⟨_,u,.inl ⟨D,x,ks,v,rfl⟩,h⟩
     ·cases h
    ·rename_i D;exact⟨_,_,.inr ⟨D,rfl,rfl⟩,h⟩
  obtain⟨z,u,h1,h2⟩:=this;obtain⟨E,F,J,a2,a3,a4,a5⟩:=El l (n+1) z u h2;refine⟨fun i=>match i with|0=>env|i+1=>E i,fun i=>match i with|0=>fr|i+1=>F i,rfl,rfl,fun i V y=>?_,a4,a5⟩
  cases i with
  |zero=>cases y;show o7 g C d ops (n+0) _ env fr (E 0) (F 0);rw[J,a2];exact h1
  |succ i=>
   have:=a3 i V (by simpa using y);rw[Nat.add_assoc,Nat.add_comm 1 i]at this;exact this
def HG{g:Cfg}{C:CallF}{fr:Fr}{f:Nat}{args:List SV}{x:SV}{fr':Fr}{ks:List Nat}(h:iy g C true fr f args=some (x,fr',ks)):fr'=fr/\ks=[]:=by
 unfold iy at h;split at h
 ·cases h
 ·split at h
  ·split at h
   ·cases h
   ·split at h
    ·cases h;exact⟨rfl,rfl⟩
    ·simp only at h;split at h
     ·split at h
      ·cases h;exact⟨rfl,rfl⟩
      ·split at h
       ·cases h;exact⟨rfl,rfl⟩
       ·cases h
     ·cases h
  ·cases h
def uW{g:Cfg}{C:CallF}{env:Env}{fr:Fr}{op:Op}{x:SV}{fr':Fr}{ks:List Nat}(h:gU g C env fr op=some (x,fr',ks)):fr'=fr/\ks=[]:=by
 unfold gU at h;split at h
 ·rename_i u;unfold mq at u;split at u
  ·unfold bT tv at h;simp only at h;split at h
   ·cases h;exact⟨rfl,rfl⟩
   ·cases h
  ·rename_i c v y;unfold bT at h;simp only at h;unfold mX at h;split at h
   ·cases h
   ·exact HG h
  ·cases u
 ·obtain⟨_,rfl,rfl⟩:=ud h;exact⟨rfl,rfl⟩
section
variable {g:Cfg} {γ:Glob} {κ:Ctx} {C:CallF} {ops:Array Oper} {effs:List Nat} {n:Nat} {E:Nat->Env} {F:Nat->Fr}
structure ir (γ:Glob) (κ:Ctx) (ops:Array Oper) (effs:List Nat) (n:Nat) (E:Nat->Env) (F:Nat->Fr) (b:Nat) (L:Ls) (listed:Array Bool) (a:Act) (w:World):Prop where
 hd:Marks κ w a.defers
 hn:a.tmps.size=n
 hs:listed.size=ops.size
 hb:b<=ops.size
 low:∀k,k <b->listed.getD k true=true
 rN:∀k,b<=k->k <ops.size->listed.getD k true=true->∀e∈effs,b<=e->k <e
 bo:ar γ κ (F b) L w
 done:∀(k:Nat) (o:Oper) (t:Nat),ops[k]?=some o->b<=k->o.dst=some t->listed.getD k true=true->SR (MA κ.M (F b) L) L w (E (k+1) t) (a.tmps.getD t undef)
 rest:∀(t:Nat),(∀(k:Nat) (o:Oper),ops[k]?=some o->b<=k->o.dst=some t->listed.getD k true=false)->SR (MA κ.M (F b) L) L w (E b t) (a.tmps.getD t undef)
 dc:∀(k:Nat) (o:Oper),ops[k]?=some o->listed.getD k true=true->∀e∈o.after,Region.binds .any e=true->listed.getD e.on false=true
abbrev Steps(g:Cfg)(C:CallF)(ops:Array Oper)(effs:List Nat)(E:Nat->Env)(F:Nat->Fr):Prop:=∀(i:Nat) (o:Oper),ops[i]?=some o->o7 g C (some effs) ops i o (E i) (F i) (E (i+1)) (F (i+1))
def Steps.zh(y:Steps g C ops effs E F){i:Nat}{o:Oper}(ho:ops[i]?=some o)(hi:i∉effs):F (i+1)=F i/\∀t,o.dst≠some t->E (i+1) t=E i t:=by
 have h:=y i o ho
 have v:∀{x ks},step g C (some effs) i (E i) (F i) o.op=some (x,F (i+1),ks)->F (i+1)=F i/\ks=[]:=fun{x ks} h=>by
  unfold step at h;simp only[fp.2 hi]at h;exact uW h
 unfold o7 at h;split at h
 ·obtain⟨x,ks,h1,h2⟩:=h;obtain⟨h3,rfl⟩:=v h1;exact⟨h3,fun t u=>by rw[h2,QX u];rfl⟩
 ·rcases h with⟨_,x,ks,h1,h2⟩|⟨_,h1,h2⟩
  ·obtain⟨h3,rfl⟩:=v h1;exact⟨h3,fun t u=>by rw[h2,QX u];rfl⟩
  ·exact⟨h1,fun t u=>by rw[h2,QX u]⟩
theorem xh(u:Steps g C ops effs E F){b:Nat}:∀i,b<=i->i<=ops.size->(∀m,b<=m->m <i->m∉effs)->F i=F b
 |0,h,_,_=>by
   obtain rfl:b=0:=by omega
   rfl
 |i+1,h,y,v=>by
  rcases Nat.lt_or_ge i b with h1|h1
  ·obtain rfl:b=i+1:=by omega
   rfl
  ·rw[(u.zh (Array.getElem?_eq_getElem (by omega)) (v i h1 (by omega))).1];exact xh u i h1 (by omega) fun m h2 h3=>v m h2 (by omega)
theorem xf(v:Steps g C ops effs E F)(t b:Nat):∀i,b<=i->i<=ops.size->(∀m,b<=m->m <i->m∉effs)->(∀(k:Nat) (o:Oper),b<=k->k <i->ops[k]?=some o->o.dst≠some t)->E i t=E b t
 |0,h,_,_,_=>by
   obtain rfl:b=0:=by omega
   rfl
 |i+1,h,G,z,y=>by
  rcases Nat.lt_or_ge i b with h1|h1
  ·obtain rfl:b=i+1:=by omega
   rfl
  ·rw[(v.zh (Array.getElem?_eq_getElem (by omega)) (z i h1 (by omega))).2 t (y i _ h1 (by omega) (Array.getElem?_eq_getElem (by omega)))];exact xf v t b i h1 (by omega) (fun m h2 h3=>z m h2 (by omega)) fun k o u D=>y k o u (by omega)
variable {b:Nat} {L:Ls} {listed:Array Bool} {a:Act} {w:World}
def ir.start(hd:Marks κ w a.defers)(hn:a.tmps.size=n)(z:ar γ κ (F 0) L w)(D:∀t,SR (MA κ.M (F 0) L) L w (E 0 t) (a.tmps.getD t undef)):ir γ κ ops effs n E F 0 L (Array.replicate ops.size false) a w where
 hd:=hd
 hn:=hn
 hs:=by simp
 hb:=Nat.zero_le _
 low:=fun k v=>by omega
 rN:=fun k _ v u=>by
  rw[Array.getD_eq_getD_getElem?,Array.getElem?_replicate,if_pos v]at u;cases u
 bo:=z
 done:=fun k o t y _ _ u=>by
  have v:=(Array.getElem?_eq_some_iff.1 y).1;rw[Array.getD_eq_getD_getElem?,Array.getElem?_replicate,if_pos v]at u;cases u
 rest:=fun t _=>D t
 dc:=fun k o y u=>by
  have v:=(Array.getElem?_eq_some_iff.1 y).1;rw[Array.getD_eq_getD_getElem?,Array.getElem?_replicate,if_pos v]at u;cases u
def ir.slot(hok:r5 ops effs)(U:Steps g C ops effs E F)(h:ir γ κ ops effs n E F b L listed a w)
  {i:Nat}{t:Nat}(G:b<=i)(hi:i<=ops.size)(hm:∀m,b<=m->m <i->m∉effs)(h1:∀(k:Nat) (ok:Oper),ops[k]?=some ok->b<=k->ok.dst=some t->listed.getD k true=true->k <i)(h2:∀(k:Nat) (ok:Oper),ops[k]?=some ok->b<=k->ok.dst=some t->listed.getD k true=false->i<=k):SR (MA κ.M (F b) L) L w (E i t) (a.tmps.getD t undef):=by
 by_cases y:∃(k:Nat) (ok:Oper),ops[k]?=some ok/\b<=k/\ok.dst=some t/\listed.getD k true=true
 ·obtain⟨k,ok,v,u,hd,D⟩:=y;have I:=h1 k ok v u hd D;rw[xf U t (k+1) i (by omega) hi (fun m h2 h3=>hm m (by omega) h3) fun m om V Z J=>hok.dst m om k ok t J v (by omega) hd];exact h.done k ok t v u hd D
 ·have z:∀(k:Nat) (o:Oper),ops[k]?=some o->b<=k->o.dst=some t->listed.getD k true=false:=fun k o v u hd=>by
   rw[<- Bool.not_eq_true];exact fun D=>y ⟨k,o,v,u,hd,D⟩
  rw[xf U t b i G hi hm fun k o u I v hd=>by have:=h2 k o v u hd (z k o v u hd);omega];exact h.rest t z
def ir.jn(h:ir γ κ ops effs n E F b L listed a w){i k:Nat}(ha:gG ops i k):(∀(o:Oper),ops[i]?=some o->∀e∈o.after,Region.binds .any e=true->listed.getD e.on false=true)->listed.getD k true=true:=by
 induction ha with
 |one i o e z v u=>intro y;exact iB (y o z e v u)
 |more i k o e z v u ha G=>
  intro y;have h1:=iB (y o z e v u);exact G fun I D=>h.dc e.on I D h1
def Hg(hok:r5 ops effs){listed:Array Bool}(hs:listed.size=ops.size)(hr:Region.ready .any ops listed=[]):∀k,k <ops.size->listed.getD k true=true:=by
 intro k
 induction k using Nat.strongRecOn with
 |_ k ih=>
  intro v;rw[<- Bool.not_eq_false];intro G
  have y:k∈Region.ready .any ops listed:=mem_ready.2 ⟨G,ops[k],Array.getElem?_eq_getElem v,fun e D z=>by
   have u:=hok.back k _ (Array.getElem?_eq_getElem v) e D z;exact CS (by rw[hs];omega) (ih e.on u (by omega))⟩
  rw[hr]at y;cases y
theorem ir.put(hok:r5 ops effs)(h:ir γ κ ops effs n E F b L listed a w){w':World}{i:Nat}{o:Oper}(ho:ops[i]?=some o)(an:listed.getD i true=false)(ab:b<=i)(al:i∉effs)(ag:∀e∈effs,b<=e->i <e)(G:∀e∈o.after,Region.binds .any e=true->listed.getD e.on false=true)
  (U:∀d,o.dst=some d->d <n){v:Value}{L':Ls}(hT:Tr κ.M (F b) L w (F b) L' w' [])(Z:ar γ κ (F b) L' w')(hv:∀t,o.dst=some t->SR (MA κ.M (F b) L') L' w' (E (i+1) t) v):ir γ κ ops effs n E F b L' (listed.setIfInBounds i true) (a.put o.dst v) w' where
 hd:=by rw[put_defers];exact h.hd.tr h.bo hT
 hn:=by rw[bR,h.hn]
 hs:=by rw[Array.size_setIfInBounds];exact h.hs
 hb:=h.hb
 low:=fun k y=>by rw[getD_set_ne true (by omega)];exact h.low k y
 rN:=fun k z y D e V J=>by
  by_cases u:k=i
  ·subst u;exact ag e V J
  ·rw[getD_set_ne true (Ne.symm u)]at D;exact h.rN k z y D e V J
 bo:=Z
 done:=fun k ok t y z hd D=>by
  by_cases u:k=i
  ·subst u;rw[ho]at y;cases y;rw[hd,fx (by rw[h.hn];exact U t hd)];exact hv t hd
  ·rw[cg (hok.dst i o k ok t ho y u hd)];rw[getD_set_ne true (Ne.symm u)]at D;exact hT.sr (h.done k ok t y z hd D)
 rest:=fun t ht=>by
  have hi:o.dst≠some t:=fun hd=>by
   have ad:i <listed.size:=by rw[h.hs];exact(Array.getElem?_eq_some_iff.1 ho).1
   have:=ht i o ho ab hd;rw[Array.getD_eq_getD_getElem?,Array.getElem?_setIfInBounds_self_of_lt ad]at this;cases this
  rw[cg hi];refine hT.sr (h.rest t fun k ok y z hd=>?_);have u:k≠i:=fun e=>by subst e;rw[ho]at y;cases y;exact hi hd
  have:=ht k ok y z hd;rw[getD_set_ne true (Ne.symm u)]at this;exact this
 dc:=fun k ok y D e V I=>by
  by_cases u:k=i
  ·subst u;rw[ho]at y;cases y;exact getD_set_true (G e V I)
  ·rw[getD_set_ne true (Ne.symm u)]at D;exact getD_set_true (h.dc k ok y D e V I)
def ir.jump(h:ir γ κ ops effs n E F b L listed a w){w':World}{i:Nat}{o:Oper}(ho:ops[i]?=some o)(V:∀k,k <i->listed.getD k true=true)(I:∀k,i <k->k <ops.size->listed.getD k true=false)(D:∀e∈o.after,Region.binds .any e=true->listed.getD e.on false=true)
  {v:Value}{L':Ls}(hd:Marks κ w' a.defers)(J:ar γ κ (F (i+1)) L' w')(hV:∀t,SR (MA κ.M (F (i+1)) L') L' w' (E (i+1) t) ((a.put o.dst v).tmps.getD t undef)):ir γ κ ops effs n E F (i+1) L' (listed.setIfInBounds i true) (a.put o.dst v) w' where
 hd:=by rw[put_defers];exact hd
 hn:=by rw[bR,h.hn]
 hs:=by rw[Array.size_setIfInBounds];exact h.hs
 hb:=(Array.getElem?_eq_some_iff.1 ho).1
 low:=fun k y=>by
  by_cases u:k=i
  ·subst u;have Z:k <listed.size:=by rw[h.hs];exact(Array.getElem?_eq_some_iff.1 ho).1
   rw[Array.getD_eq_getD_getElem?,Array.getElem?_setIfInBounds_self_of_lt Z];rfl
  ·rw[getD_set_ne true (Ne.symm u)];exact V k (by omega)
 rN:=fun k U y z=>by
  rw[getD_set_ne true (by omega),I k (by omega) y]at z;cases z
 bo:=J
 done:=fun k ok t y U hd z=>by
  rw[getD_set_ne true (by omega),I k (by omega) (Array.getElem?_eq_some_iff.1 y).1]at z;cases z
 rest:=fun t _=>hV t
 dc:=fun k ok y z e he G=>by
  by_cases u:k=i
  ·subst u;rw[ho]at y;cases y;exact getD_set_true (D e he G)
  ·rw[getD_set_ne true (Ne.symm u)]at z;exact getD_set_true (h.dc k ok y z e he G)
def Qr{rd:Option Nat}{dn:Nat}(hS:ee g.P γ C)(hok:r5 ops effs)(aX:iA n ops.toList=true)(hE:Steps g C ops effs E F){Q:Exit->Act->World->Prop}
  (hK:∀L a w,Marks κ w a.defers->a.tmps.size=n->ar γ κ (F ops.size) L w->(∀t,SR (MA κ.M (F ops.size) L) L w (E ops.size t) (a.tmps.getD t undef))->Q .normal a w):
  ∀(I:Nat) (b:Nat) (L:Ls) (listed:Array Bool) (a:Act) (w:World),fC listed ops.size<=I->ir γ κ ops effs n E F b L listed a w->wpAnyIn (Fw rd) dn g.P .any ops Q I listed a w:=by
 have ad:∀(i:Nat) (o:Oper),ops[i]?=some o->∀d,o.dst=some d->d <n:=fun i o ho d hd=>jv aX (Array.mem_toList_iff.2 (Array.mem_of_getElem? ho)) hd
 have fin:∀(b:Nat) (L:Ls) (listed:Array Bool) (a:Act) (w:World),(∀k,k <ops.size->listed.getD k true=true)->ir γ κ ops effs n E F b L listed a w->Q .normal a w:=fun b L listed a w V h=>by
  have hm:∀m,b<=m->m <ops.size->m∉effs:=fun m h1 h2 h3=>Nat.lt_irrefl _ (h.rN m h1 h2 (V m h2) m h3 h1);have hF:=xh hE ops.size h.hb (Nat.le_refl _) hm;refine hK L a w h.hd h.hn (by rw[hF];exact h.bo) fun t=>?_;rw[hF]
  exact h.slot hok hE h.hb (Nat.le_refl _) hm (fun k ok G _ _ _=>(Array.getElem?_eq_some_iff.1 G).1) (fun k ok G _ _ hl=>by
   have:=V k (Array.getElem?_eq_some_iff.1 G).1;rw[hl]at this;cases this)
 intro I
 induction I with
 |zero=>
  intro b L listed a w hu h;have V:=t_ (listed:=listed) ops.size (by omega);refine⟨?_,fin b L listed a w V h⟩
  cases hr:Region.ready .any ops listed with
  |nil=>rfl
  |cons i l=>
   have hm:i∈Region.ready .any ops listed:=by rw[hr];simp
   obtain⟨hl,o,ho,_⟩:=mem_ready.1 hm;have:=V i (Array.getElem?_eq_some_iff.1 ho).1;rw[hl]at this;cases this
 |succ I ih=>
  intro b L listed a w hu h;refine⟨fun hr=>fin b L listed a w (Hg hok h.hs hr) h,fun i hi=>?_⟩;obtain⟨hl,o,ho,J⟩:=mem_ready.1 hi;have aB:=(Array.getElem?_eq_some_iff.1 ho).1;have D:=hE i o ho
  have bf:fC (listed.setIfInBounds i true) ops.size<=I:=by
   have:=rV hl ops.size;rw[if_pos aB]at this;omega
  have an:b<=i:=by
   rcases Nat.lt_or_ge i b with h1|h1
   ·have:=h.low i h1;rw[hl]at this;cases this
   ·exact h1
  have ag:∀k,gG ops i k->listed.getD k true=true:=fun k ha=>h.jn ha fun o' aA=>by rw[ho]at aA;cases aA;exact J
  have bd:∀e∈effs,b<=e->¬e <i:=fun e he av bb=>by
   have h1:=ag e ((hok.eff e he i aB).2 bb);exact Nat.lt_irrefl _ (h.rN e av (by omega) h1 e he av)
  have hm:∀m,b<=m->m <i->m∉effs:=fun m h1 h2 h3=>bd m h3 h1 h2;have hF:F i=F b:=xh hE i an (by omega) hm
  have al:∀k,dC o k=true->listed.getD k true=true/\k <i:=fun k G=>by
   obtain⟨e,he,hb,rfl⟩:=iX G;exact⟨iB (J e he hb),hok.back i o ho e he hb⟩
  have be:∀y∈o.op.operands,SR (MA κ.M (F i) L) L w (dp (E i) y) (a.eval y):=fun y hy=>by
   rw[hF]
   cases y with
   |const v=>exact j6 v
   |global g=>exact .dead _
   |func f=>exact .t _ _ (.fn _ [] #[] #[] rfl (fun j x u hx _=>by simp at hx))
   |tmp t=>
    refine h.slot hok hE an (by omega) hm (fun k ok G aG hd z=>?_) (fun k ok G aG hd z=>?_)
    ·have bl:k≠i:=fun e=>by subst e;rw[hl]at z;cases z
     rcases hok.use i o k ok t ho G bl hd hy with h1|h1
     ·exact(al k h1).2
     ·obtain⟨e,he,hb,rfl⟩:=iX h1;have:=iB (h.dc k ok G z e he hb);rw[hl]at this;cases this
    ·rcases Nat.lt_or_ge k i with bb|bk
     ·rcases hok.use i o k ok t ho G (by omega) hd hy with h1|h1
      ·have:=(al k h1).1;rw[z]at this;cases this
      ·obtain⟨e,he,hb,rfl⟩:=iX h1;have:=hok.back k ok G e he hb;omega
     ·exact bk
  have au:ar γ κ (F i) L w:=by rw[hF];exact h.bo
  -- what comes behind this operation,once it is carried out
  have next:∀(v:Value) (w':World) (L':Ls) (x:SV) (ks:List Nat),Tr κ.M (F i) L w (F (i+1)) L' w' ks->ar γ κ (F (i+1)) L' w'->SR (MA κ.M (F (i+1)) L') L' w' x v->E (i+1)=aE (dR ks (E i)) o.dst x->(i∉effs->ks=[])->wpAnyIn (Fw rd) dn g.P .any ops Q I (listed.setIfInBounds i true) (a.put o.dst v) w':=fun v w' L' x ks hT ab hv U aN=>by
   by_cases Z:i∈effs
   ·have a6:∀k,k <i->listed.getD k true=true:=fun k G=>ag k ((hok.eff i Z k (by omega)).1 G)
    have aY:∀k,i <k->k <ops.size->listed.getD k true=false:=fun k G aN=>by
     rw[<- Bool.not_eq_true];intro z;have:=h.jn ((hok.eff i Z k aN).2 G) fun o' aA=>h.dc k o' aA z;rw[hl]at this;cases this
    refine ih _ _ _ _ _ bf (h.jump ho a6 aY J (h.hd.tr au hT) ab fun t=>?_);rw[U];refine lP (fun t=>?_) hv (fun k G=>by rw[h.hn];exact ad i o ho k G) t;refine hT.env ?_;rw[hF];refine h.slot hok hE an (by omega) hm (fun k ok G _ _ z=>?_) (fun k ok G _ _ z=>?_)
    ·have:=(Array.getElem?_eq_some_iff.1 G).1;rcases Nat.lt_trichotomy k i with h1|h1|h1
     ·exact h1
     ·subst h1;rw[hl]at z;cases z
     ·rw[aY k h1 this]at z;cases z
    ·rcases Nat.lt_or_ge k i with h1|h1
     ·rw[a6 k h1]at z;cases z
     ·exact h1
   ·obtain⟨bj,_⟩:=hE.zh ho Z;rw[bj,hF]at hT ab hv;obtain rfl:=aN Z;refine ih _ _ _ _ _ bf (h.put hok ho hl an Z (fun e he av=>?_) J (ad i o ho) hT ab fun t ht=>?_)
    ·have:=bd e he av;have:e≠i:=fun h=>Z (by rw[<- h];exact he);omega
    ·rw[U,ht];show SR _ _ _ (cV _ t x t) v
     rw[iq];exact hv
  have ap:∀{x:SV} {f1:Fr} {ks:List Nat},step g C (some effs) i (E i) (F i) o.op=some (x,f1,ks)->i∉effs->ks=[]:=fun{x f1 ks} D Z=>by
   unfold step at D;simp only[fp.2 Z]at D;exact(uW D).2
  unfold wpOpIn;simp only[ho];unfold o7 at D
  cases hg:o.guard with
  |none=>
   rw[hg]at D;obtain⟨x,ks,D,U⟩:=D;rw[if_pos (by simp[Region.wanted,hg])];exact(ii hS D κ L a w au be).wpIn fun v w' ⟨L',hT,ab,hv⟩=>next v w' L' x ks hT ab hv U (ap D)
  |some gj=>
   obtain⟨j,aF⟩:=gj;rw[hg]at D;obtain⟨bm,bt⟩:=al j (hok.guard i o j aF ho hg)
   have bi:∀W,cG ops (E i) j aF=some W->Region.wanted o (yielded ops a.tmps)=W:=fun W hW=>oY (A:=MA κ.M (F b) L) (L:=L) (w:=w) hg hW fun d ax=>by
    cases ao:ops[j]? with
    |none=>rw[ao]at ax;cases ax
    |some oj=>
     rw[ao]at ax;have aM:oj.dst=some d:=ax;refine⟨?_,by rw[h.hn];exact ad j oj ao d aM⟩;refine h.slot hok hE an (by omega) hm (fun k ok G aG hd z=>?_) (fun k ok G aG hd z=>?_)
     ·rcases Nat.lt_or_ge k j with h1|h1
      ·omega
      ·rcases Nat.eq_or_lt_of_le h1 with h2|h2
       ·omega
       ·exact absurd aM (hok.dst j oj k ok d ao G (by omega) hd)
     ·by_cases a1:k=j
      ·subst a1;rw[bm]at z;cases z
      ·exact absurd aM (hok.dst j oj k ok d ao G a1 hd)
   rcases D with⟨hW,x,ks,D,U⟩|⟨hW,aR,U⟩
   ·rw[bi _ hW,if_pos rfl];exact(ii hS D κ L a w au be).wpIn fun v w' ⟨L',hT,ab,hv⟩=>next v w' L' (.aT x) ks hT ab (.aT _ _ hv) U (ap D)
   ·rw[bi _ hW,if_neg (by simp)];exact⟨fun _ _=>trivial,next undef w L .no [] (by rw[aR];exact Tr.refl) (by rw[aR];exact au) .no U (fun _=>rfl)⟩
end
def l_(g:Cfg)(C:CallF)(effs:List Nat)(ops:Array Oper)(i:Nat)(o:Oper)(E:Env)(F:Fr)(E':Env)(v:Fr):Prop:=
 sR effs ops E i=true/\match o.guard with
 |none=>∃x,step g C (some effs) i E F o.op=some (x,v,[])/\E'=aE E o.dst x
 |some (j,u)=>(cG ops E j u=some true/\∃x,step g C (some effs) i E F o.op=some (x,v,[])/\E'=aE E o.dst (.aT x))\/(cG ops E j u=some false/\v=F/\E'=aE E o.dst .no)
theorem tB{g:Cfg}{C:CallF}{effs:List Nat}{ops:Array Oper}{env':Env}{fr':Fr}:∀(l:List Oper) (n:Nat) (env:Env) (fr:Fr),f_ g C effs ops n l env fr=some (env',fr')->
  ∃(E:Nat->Env) (F:Nat->Fr),E 0=env/\F 0=fr/\(∀i o,l[i]?=some o->l_ g C effs ops (n+i) o (E i) (F i) (E (i+1)) (F (i+1)))/\E l.length=env'/\F l.length=fr'
 |[],n,env,fr,h=>by
  unfold f_ at h;cases h;exact⟨fun _=>env',fun _=>fr',rfl,rfl,fun i o V=>by simp at V,rfl,rfl⟩
 |o::l,n,env,fr,h=>by
  have:∃D u,l_ g C effs ops n o env fr D u/\f_ g C effs ops (n+1) l D u=some (env',fr'):=by
   unfold f_ at h;unfold l_;split at h
   ·cases h
   ·rename_i v;split at h
    ·rename_i I;rw[I];split at h
     ·rename_i x u y;exact⟨_,u,⟨v,x,y,rfl⟩,h⟩
     ·cases h
    ·rename_i j J I;rw[I];split at h
     ·cases h
     ·rename_i G;split at h
      ·rename_i x u y;exact⟨_,u,⟨v,.inl ⟨G,x,y,rfl⟩⟩,h⟩
      ·cases h
     ·rename_i G;exact⟨_,_,⟨v,.inr ⟨G,rfl,rfl⟩⟩,h⟩
  obtain⟨D,u,h1,h2⟩:=this;obtain⟨E,F,U,a2,a3,a4,a5⟩:=tB l (n+1) D u h2;refine⟨fun i=>match i with|0=>env|i+1=>E i,fun i=>match i with|0=>fr|i+1=>F i,rfl,rfl,fun i Z z=>?_,a4,a5⟩
  cases i with
  |zero=>cases z;show l_ g C effs ops (n+0) _ env fr (E 0) (F 0);rw[U,a2];exact h1
  |succ i=>
   have:=a3 i Z (by simpa using z);rw[Nat.add_assoc,Nat.add_comm 1 i]at this;exact this
def Lm{P:Program}{t:Nat}{x:SV}{fr fr':Fr}(hv:∀b p k,x≠.lr b p k)(h:∀b,((∃j,x=.lp b j)\/∃sz k j,x=.le b sz k j)->fr[b]?=fr'[b]?):fO P fr t x=fO P fr' t x:=by
 unfold fO
 cases x with
 |lp i j=>simp only[h i (.inl ⟨j,rfl⟩)]
 |le i sz k j=>simp only[h i (.inr ⟨sz,k,j,rfl⟩)]
 |lr b p k=>exact absurd rfl (hv b p k)
 |t y=>cases y <;>rfl
 |_=>rfl
def J9{P:Program}{t:Nat}{x i:SV}{fr fr':Fr}(hv:(∀b sz a n,x≠.lv b sz a n)/\∀b p,x≠.lo b p)(h:∀b,x=.ls b->fr[b]?=fr'[b]?):jD P fr t x i=jD P fr' t x i:=by
 unfold jD
 cases x with
 |lv b sz a n=>exact absurd rfl (hv.1 b sz a n)
 |lo b p=>exact absurd rfl (hv.2 b p)
 |ls r=>simp only[h r rfl]
 |t y=>cases y <;>rfl
 |_=>rfl
def Nb{env:Env}{t:Nat}{y:Operand}{u:List Nat}(h:dy env (.load t y)=some u):∀b,(((∃j,rd env y=.lp b j)\/∃sz k j,rd env y=.le b sz k j)->u=[b]):=by
 intro b v;have h:(match rd env y with|.lp i _=>some [i]|.le i _ _ _=>some [i]|.lr ..=>none|_=>some [])=some u:=h;rcases v with⟨j,e⟩|⟨sz,k,j,e⟩
 ·rw[e]at h;cases h;rfl
 ·rw[e]at h;cases h;rfl
def EH{env:Env}{t:Nat}{y:Operand}{z:List Nat}(h:dy env (.load t y)=some z):∀b∈z,(∃j,rd env y=.lp b j)\/∃sz k j,rd env y=.le b sz k j:=by
 intro b v;have h:(match rd env y with|.lp i _=>some [i]|.le i _ _ _=>some [i]|.lr ..=>none|_=>some [])=some z:=h
 cases u:rd env y with
 |lp i j=>
   rw[u]at h;cases h;obtain rfl:b=i:=by simpa using v
   exact .inl ⟨j,rfl⟩
 |le i sz k j=>
   rw[u]at h;cases h;obtain rfl:b=i:=by simpa using v
   exact .inr ⟨sz,k,j,rfl⟩
 |lr i p k=>rw[u]at h;cases h
 |_=>rw[u]at h;cases h;cases v
def Nc{env:Env}{t:Nat}{y:Operand}{u:List Nat}(h:dy env (.load t y)=some u):∀b p k,rd env y≠.lr b p k:=fun b p k e=>by
 have h:(match rd env y with|.lp i _=>some [i]|.le i _ _ _=>some [i]|.lr ..=>none|_=>some [])=some u:=h;rw[e]at h;cases h
def zK{env:Env}{t:Nat}{x i:Operand}{v:List Nat}(h:dy env (.indexAddr t x i)=some v):(∀b,rd env x=.ls b->v=[b])/\∀b∈v,rd env x=.ls b:=by
 have h:(match rd env x with|.ls i=>some [i]|.lv ..=>none|.lo ..=>none|_=>some [])=some v:=h;refine⟨fun b e=>by rw[e]at h;cases h;rfl,fun b y=>?_⟩
 cases u:rd env x with
 |ls i=>
   rw[u]at h;cases h;obtain rfl:b=i:=by simpa using y
   rfl
 |lv b sz a n=>rw[u]at h;cases h
 |lo b p=>rw[u]at h;cases h
 |_=>rw[u]at h;cases h;cases y
def Na{env:Env}{t:Nat}{x i:Operand}{u:List Nat}(h:dy env (.indexAddr t x i)=some u):(∀b sz a n,rd env x≠.lv b sz a n)/\∀b p,rd env x≠.lo b p:=by
 have h:(match rd env x with|.ls i=>some [i]|.lv ..=>none|.lo ..=>none|_=>some [])=some u:=h;refine⟨fun b sz a n e=>?_,fun b p e=>?_⟩
 ·rw[e]at h;cases h
 ·rw[e]at h;cases h
def zH{env:Env}{b:BinOp}{xt yt:TypeId}{x y:Operand}{u:List Nat}(h:dy env (.binOp b xt x y yt)=some u):u=[]/\∀i,rd env x≠.ls i:=by
 have h:(match rd env x with|.ls _=>none|_=>some [])=some u:=h
 cases v:rd env x with
 |ls i=>rw[v]at h;cases h
 |_=>rw[v]at h;cases h;exact⟨rfl,fun i e=>by cases e⟩
def Ht{P:Program}{b:BinOp}{t:Nat}{s s':SV}{fr fr':Fr}(h:∀i,s≠.ls i):qx P fr b t s s'=qx P fr' b t s s':=by
 unfold qx
 cases s with
 |ls i=>exact absurd rfl (h i)
 |lv i sz a n=>cases s' <;>cases n <;>rfl
 |_=>rfl
theorem tH{fr:Fr}:∀{cs:List SV},cs.all jE=true->br fr cs=[]
 |[],_=>rfl
 |c::cs,h=>by
  rw[List.all_cons,Bool.and_eq_true]at h;rw[br,tH h.2];cases c <;>first|rfl|(have h1:false=true:=h.1;cases h1)
def zI{env:Env}{c:Call}{z:List Nat}(h:dy env (.call c)=some z):z=[]/\∃f args tys g pa y,c=⟨.value f,args,tys⟩/\eK (rd env f)=some (g,pa,y)/\(pa++args.toList.map (rd env)++y).all jE=true:=by
 obtain⟨u,args,tys⟩:=c;cases u
 case value f=>
  unfold dy at h;simp only at h;split at h
  ·rename_i g pa y D;split at h
   ·rename_i v;cases h;exact⟨rfl,f,args,tys,g,pa,y,rfl,D,v⟩
   ·cases h
  ·cases h
 all_goals(have h:none=some z:=h;cases h)
theorem Gy{fr fr':Fr}:∀{l:List SV},l.all jE=true->cJ fr l=cJ fr' l
 |[],_=>rfl
 |c::l,h=>by
  rw[List.all_cons,Bool.and_eq_true]at h;rw[cJ,cJ,Gy (fr':=fr') h.2];cases c <;>first|rfl|(have h1:false=true:=h.1;cases h1)
theorem AH:∀(bs:List Bool) {l:List SV},l.all jE=true->(bp bs l).all jE=true
 |[],l,h=>by cases l <;>rfl
 |b::_,[],h=>by cases b <;>rfl
 |b::bs,c::l,h=>by
  rw[List.all_cons,Bool.and_eq_true]at h;have u:=AH bs h.2
  cases b with
  |true=>exact u
  |false=>show((c::bp bs l).all jE)=true;rw[List.all_cons,h.1,u];rfl
def HK{g:Cfg}{C:CallF}{fr u:Fr}{f:Nat}{args:List SV}{x:SV}{ks:List Nat}(v:args.all jE=true)(h:iy g C true fr f args=some (x,fr,ks)):iy g C true u f args=some (x,u,ks):=by
 have I:=AH (aQ g f 0 args) v;unfold iy at h⊢;rw[Gy (fr':=u) I]at h;rw[tH I]at h⊢;split at h
 ·cases h
 ·rename_i xs D
  try simp only[D]
  split at h
  ·rename_i U
   try simp only[U]
   split at h
   ·cases h
   ·rename_i r Z J
    try simp only[J]
    split at h
    ·rename_i z;cases h
     try simp only[z]
    ·rename_i z
     try simp only[z]
     try simp only at h
     split at h
     ·rename_i G;cases h;simp only[G]
     ·rename_i G;split at h
      ·rename_i y V;cases h;first|simp only[V]|(split <;>simp_all)
      ·cases h
  ·cases h
def yF{g:Cfg}{C:CallF}{env:Env}{op:Op}{I:List Nat}{fr u:Fr}{x:SV}(hc:mq op=true)(z:dy env op=some I)(hx:gU g C env fr op=some (x,fr,[])):gU g C env u op=some (x,u,[]):=by
 cases op with
 |makeSlice t l c=>
  unfold gU at hx⊢;simp only[mq]at hx⊢;unfold bT tv at hx⊢;simp only at hx⊢;split at hx
  ·rename_i G;cases hx;simp only[G]
  ·cases hx
 |call c=>
  obtain⟨_,U,D,J,fn,V,Z,rfl,y,v⟩:=zI z;unfold gU at hx⊢;simp only[mq]at hx⊢;unfold bT mX at hx⊢;simp only[y]at hx⊢;exact HK v hx
 |_=>cases hc
def zM{P:Program}{env:Env}{op:Op}{v:List Nat}{fr fr':Fr}(h:dy env op=some v)(ha:∀b∈v,fr[b]?=fr'[b]?):bD P fr env op=bD P fr' env op:=by
 cases op
 case load t y=>exact Lm (Nc h) fun b z=>ha b (by rw[Nb h b z];simp)
 case binOp b I x y J=>
  have:=Ht (P:=P) (b:=b) (t:=I) (s':=rd env y) (fr:=fr) (fr':=fr') (zH h).2;unfold bD;simp only[this]
 case indexAddr t x i=>exact J9 (Na h) fun b z=>ha b (by rw[(zK h).1 b z];simp)
 case call c=>
  obtain⟨u,D,G⟩:=c;cases u
  case value f=>rfl
  all_goals(have h:none=some v:=h;cases h)
 all_goals first
  |rfl
  |(have h:none=some v:=h;cases h)
def zL{P:Program}{env:Env}{op:Op}{z:List Nat}{fr:Fr}{x:SV}(h:dy env op=some z)(hx:bD P fr env op=some x):∀b∈z,b <fr.length:=by
 intro b u;cases op
 case load t y=>
  have hx:fO P fr t (rd env y)=some x:=hx;unfold fO at hx
  cases v:fr[b]? with
  |some D=>exact aC v
  |none=>
   rcases EH h b u with⟨j,e⟩|⟨sz,k,j,e⟩
   ·simp only[e,v]at hx;split at hx <;>cases hx
   ·simp only[e,v]at hx;split at hx <;>cases hx
 case indexAddr t y i=>
  have hx:jD P fr t (rd env y) (rd env i)=some x:=hx;unfold jD at hx
  cases v:fr[b]? with
  |some D=>exact aC v
  |none=>
   simp only[(zK h).2 b u,v]at hx
   repeat'(split at hx)
   all_goals first|(cases hx;done)|contradiction
 case binOp G I x y J=>rw[(zH h).1]at u;cases u
 case call c=>rw[(zI h).1]at u;cases u
 all_goals first
  |(have h:some []=some z:=h;cases h;cases u;done)
  |(have h:none=some z:=h;cases h)
def zJ{op:Op}{e z:Env}(h:∀y∈op.operands,dp e y=dp z y):dy e op=dy z op:=by
 cases op
 case load t y=>unfold dy;simp only[rd,h y (by simp[Op.operands])]
 case binOp b U x y V=>unfold dy;simp only[rd,h x (by simp[Op.operands])]
 case indexAddr t x i=>unfold dy;simp only[rd,h x (by simp[Op.operands])]
 case call c=>
  obtain⟨u,v,J⟩:=c;cases u
  case value f=>
   have D:rd e f=rd z f:=congrArg un (h f (by simp[Op.operands,Call.operands]));have G:v.toList.map (rd e)=v.toList.map (rd z):=List.map_congr_left fun y I=>congrArg un (h y (by simp only[Op.operands,Call.operands];simp;exact .inr (by simpa using I)));unfold dy;simp only[D,G]
  all_goals rfl
 all_goals rfl
def Qx{op:Op}{e z:Env}(h:∀y∈op.operands,dp e y=dp z y):gF e op=gF z op:=by
 cases op
 case store t a x=>unfold gF;simp only[rd,h a (by simp[Op.operands]),h x (by simp[Op.operands])]
 case call c=>
  obtain⟨v,u,V⟩:=c;cases v
  case builtin b=>
   cases b
   case copy=>
    unfold gF
    cases D:u.toList with
    |nil=>simp only[D]
    |cons x l=>
     have J:dp e x=dp z x:=h x (by
      have:x∈u.toList:=by rw[D];simp
      simp only[Op.operands,Call.operands];simpa using this)
     cases l with
     |nil=>simp only[D]
     |cons y l=>cases l <;>simp only[D,rd,J]
   all_goals rfl
  case value f=>
   have G:rd e f=rd z f:=congrArg un (h f (by simp[Op.operands,Call.operands]));have I:u.toList.map (rd e)=u.toList.map (rd z):=List.map_congr_left fun y U=>congrArg un (h y (by simp only[Op.operands,Call.operands];simp;exact .inr (by simpa using U)));unfold gF;simp only[G,I]
  all_goals rfl
 all_goals rfl
theorem CT:∀(bs:List Bool) {l:List SV},l.all jE=true->fo bs l=[]
 |[],l,h=>by cases l <;>rfl
 |b::_,[],h=>by cases b <;>rfl
 |b::bs,c::l,h=>by
  rw[List.all_cons,Bool.and_eq_true]at h;have u:=CT bs h.2
  cases b with
  |false=>exact u
  |true=>
   show c.refs++fo bs l=[]
   rw[u];cases c <;>first|rfl|(have h1:false=true:=h.1;cases h1)
def Qy{g:Cfg}{C:CallF}{env:Env}{fr fr':Fr}{op:Op}{x:SV}{ks wl:List Nat}(h:gF env op=some wl)(hx:bX g C env fr op=some (x,fr',ks)):∀b,b∉wl->b <fr.length->fr'[b]?=fr[b]?:=by
 cases op
 case alloc T=>
  unfold bX bT at hx;simp only[gW]at hx;split at hx
  ·cases hx;intro b _ D;exact List.getElem?_append_left D
  ·cases hx
 case box T y=>
  unfold bX bT at hx;simp only[gW]at hx;split at hx
  ·cases hx;intro b _ D;exact List.getElem?_append_left D
  ·cases hx
 case makeSlice t l c=>
  unfold bX bT gZ at hx;simp only[gW]at hx
  repeat'(split at hx)
  all_goals first
   |(cases hx;intro b _ D;exact List.getElem?_append_left D)
   |(cases hx;done)
 case store t a y=>
  unfold bX bT ik at hx;simp only[gW]at hx;unfold gF at h;intro b D I;split at hx
  ·cases hx
  ·split at hx
   ·cases hx
   ·cases Z:rd env a with
    |lp i j=>
     simp only[Z]at h hx;cases h;split at hx
     ·split at hx
      ·cases hx;exact List.getElem?_set_ne (by intro e;exact D (by simp[e]))
      ·cases hx
     ·cases hx
    |le i sz k j=>
     simp only[Z]at h hx;split at h
     ·rename_i z;cases h;split at hx
      ·split at hx
       ·cases hx
       ·split at hx
        ·cases hx
        ·split at hx
         ·cases hx
         ·split at hx
          ·cases hx
          ·split at hx
           ·cases hx
           ·cases hx;rw[tH z];exact List.getElem?_set_ne (by intro e;exact D (by simp[e]))
      ·cases hx
     ·cases h
    |_=>simp only[Z]at h;cases h
 case call c=>
  obtain⟨G,ab,ad⟩:=c;cases G
  case builtin b'=>
   cases b'
   case copy=>
    unfold bX bT at hx;simp only[gW]at hx;unfold gF at h;split at hx
    ·rename_i u v t u' hl ht;simp only[hl]at h;intro b D I
     have V:∀(i:Nat),wl=[i]->∀zs sz a n,nW fr zs i sz a n=some (x,fr',ks)->fr'[b]?=fr[b]?:=fun i hi zs sz a n J=>by
      unfold nW at J;split at J
      ·split at J
       ·cases J;exact List.getElem?_set_ne (by intro e;exact D (by simp[hi,e]))
       ·cases J
      ·cases J
     unfold jr at hx;split at hx
     ·cases hx
     ·split at hx
      ·cases hx
      ·split at hx
       ·cases hx
       ·split at hx
        ·rename_i hu;simp only[hu]at h;cases h;split at hx
         ·exact V _ rfl _ _ _ _ hx
         ·cases hx
        ·rename_i hu;simp only[hu]at h;cases h;split at hx
         ·exact V _ rfl _ _ _ _ hx
         ·cases hx
        ·cases hx
    ·cases hx
   all_goals(unfold gF at h;cases h)
  case value f=>
   unfold bX bT mX at hx;simp only[gW]at hx;unfold gF at h;simp only at h;split at h
   ·rename_i f' pa qa U;simp only[U]at hx;split at h
    ·rename_i z;intro b _ I;unfold iy at hx;rw[CT _ z,tH (AH _ z)]at hx;split at hx
     ·cases hx
     ·have e0:cB [] ([]:List Nat)=[]:=rfl;rw[e0]at hx;simp only at hx;split at hx
      ·cases hx
      ·split at hx
       ·cases hx;rfl
       ·cases hx;exact List.getElem?_append_left I
    ·cases h
   ·cases h
  all_goals(unfold gF at h;cases h)
 all_goals(unfold gF at h;cases h)
def Pt{ops:Array Oper}{op:Op}{j m:Nat}(h:oQ ops op j m=true){t:Nat}(ht:.tmp t∈op.operands):∀(q:Nat) (u:Oper),j<=q->q <m->ops[q]?=some u->u.dst≠some t:=by
 intro q u D y z hd;have h1:=List.all_eq_true.1 h q (List.mem_range.2 y);have v:Nat.blt q j=false:=by rw[<- Bool.not_eq_true,Nat.blt_eq];omega
 rw[v,z]at h1;simp only[hd,Bool.false_or,Bool.not_eq_true']at h1
 have:t∈tV op:=by
  unfold tV;rw[List.mem_filterMap];exact⟨.tmp t,Array.mem_toList_iff.2 ht,rfl⟩
 exact absurd this (fp.1 h1)
def xN{w r:Option (List Nat)}(h:uO w r=true):∃v u,w=some v/\r=some u/\∀b∈u,b∉v:=by
 unfold uO at h;split at h
 ·rename_i v u;refine⟨v,u,rfl,rfl,fun b y z=>?_⟩;have:=List.all_eq_true.1 h b z;rw[Bool.not_eq_true']at this;exact fp.1 this y
 ·cases h
section
variable {g:Cfg} {γ:Glob} {κ:Ctx} {C:CallF} {ops:Array Oper} {effs:List Nat} {n:Nat} {E:Nat->Env} {F:Nat->Fr}
abbrev jk(g:Cfg)(C:CallF)(ops:Array Oper)(effs:List Nat)(E:Nat->Env)(F:Nat->Fr):Prop:=∀(i:Nat) (o:Oper),ops[i]?=some o->l_ g C effs ops i o (E i) (F i) (E (i+1)) (F (i+1))
abbrev mS(g:Cfg)(C:CallF)(ops:Array Oper)(effs:List Nat)(E:Nat->Env)(F:Nat->Fr)(B:Nat):Prop:=B<=ops.size/\∀(i:Nat) (o:Oper),i <B->ops[i]?=some o->l_ g C effs ops i o (E i) (F i) (E (i+1)) (F (i+1))
def wy(u:jk g C ops effs E F):mS g C ops effs E F ops.size:=⟨Nat.le_refl _,fun i o _ v=>u i o v⟩
variable {B:Nat}
theorem r6(u:mS g C ops effs E F B)(t j:Nat):∀i,j<=i->i<=B->(∀(k:Nat) (o:Oper),j<=k->k <i->ops[k]?=some o->o.dst≠some t)->E i t=E j t
 |0,h,_,_=>by
   obtain rfl:j=0:=by omega
   rfl
 |i+1,h,I,y=>by
  rcases Nat.lt_or_ge i j with h1|h1
  ·obtain rfl:j=i+1:=by omega
   rfl
  ·have G:=u.1;have z:=Array.getElem?_eq_getElem (xs:=ops) (i:=i) (by omega);have hd:=y i _ h1 (by omega) z
   have e:E (i+1) t=E i t:=by
    have:=(u.2 i _ (by omega) z).2;split at this
    ·obtain⟨x,_,h2⟩:=this;rw[h2,QX hd]
    ·rcases this with⟨_,x,_,h2⟩|⟨_,_,h2⟩
     ·rw[h2,QX hd]
     ·rw[h2,QX hd]
   rw[e];exact r6 u t j i h1 (by omega) fun k o v D=>y k o v (by omega)
def o4(u:jk g C ops effs E F)(t j:Nat)(i:Nat)(h:j<=i)(hi:i<=ops.size)(hk:∀(k:Nat) (o:Oper),j<=k->k <i->ops[k]?=some o->o.dst≠some t):E i t=E j t:=r6 (wy u) t j i h hi hk
def uj(v:mS g C ops effs E F B){i:Nat}(hi:i <B)(hn:i∉effs):F (i+1)=F i:=by
 have y:=v.1;have:=(v.2 i _ hi (Array.getElem?_eq_getElem (by omega))).2
 have u:∀{op x},step g C (some effs) i (E i) (F i) op=some (x,F (i+1),[])->F (i+1)=F i:=fun{op x} h=>by
  unfold step at h;simp only[fp.2 hn]at h;exact(uW h).1
 split at this
 ·obtain⟨x,h2,_⟩:=this;exact u h2
 ·rcases this with⟨_,x,h2,_⟩|⟨_,h2,_⟩
  ·exact u h2
  ·exact h2
theorem r7(u:mS g C ops effs E F B)(j:Nat):∀i,j<=i->i<=B->(∀m,j<=m->m <i->m∉effs)->F i=F j
 |0,h,_,_=>by
   obtain rfl:j=0:=by omega
   rfl
 |i+1,h,y,v=>by
  rcases Nat.lt_or_ge i j with h1|h1
  ·obtain rfl:j=i+1:=by omega
   rfl
  ·rw[uj u (by omega) (v i h1 (by omega))];exact r7 u j i h1 (by omega) fun m h2 h3=>v m h2 (by omega)
def uk(u:jk g C ops effs E F)(j:Nat)(i:Nat)(h:j<=i)(hi:i<=ops.size)(hm:∀m,j<=m->m <i->m∉effs):F i=F j:=r7 (wy u) j i h hi hm
theorem uo(u:mS g C ops effs E F B)(s b:Nat)(hb:b <(F s).length):∀e,s<=e->e<=B->(∀(m:Nat) (om:Oper),s<=m->m <e->m∈effs->ops[m]?=some om->∃J,gF (E m) om.op=some J/\b∉J)->(F e)[b]?=(F s)[b]?
 |0,h,_,_=>by
   obtain rfl:s=0:=by omega
   rfl
 |e+1,h,he,Z=>by
  rcases Nat.lt_or_ge e s with h1|h1
  ·obtain rfl:s=e+1:=by omega
   rfl
  ·have hB:=u.1;have I:=uo u s b hb e h1 (by omega) fun m om h2 h3=>Z m om h2 (by omega);rw[<- I];by_cases z:e∈effs
   ·have V:=Array.getElem?_eq_getElem (xs:=ops) (i:=e) (by omega);obtain⟨J,G,D⟩:=Z e _ h1 (by omega) z V
    have y:b <(F e).length:=by
     obtain⟨lb,v⟩:=am hb;rw[v]at I;exact aC I
    have U:∀{x},step g C (some effs) e (E e) (F e) (ops[e]'(by omega)).op=some (x,F (e+1),[])->(F (e+1))[b]?=(F e)[b]?:=fun{x} h=>by
     unfold step at h
     have hh:bI effs e=true:=by
      rw[<- Bool.not_eq_false];exact fun hf=>fp.1 hf z
     simp only[hh]at h;exact Qy G h b D y
    have:=(u.2 e _ (by omega) V).2;split at this
    ·obtain⟨x,h2,_⟩:=this;exact U h2
    ·rcases this with⟨_,x,h2,_⟩|⟨_,h2,_⟩
     ·exact U h2
     ·rw[h2]
   ·rw[uj u (by omega) z]
def sH(D:mS g C ops effs E F B){op:Op}{j m:Nat}(u:j<=m)(hm:m<=B)(h:oQ ops op j m=true):∀y∈op.operands,dp (E m) y=dp (E j) y:=by
 intro y I
 cases y with
 |tmp t=>exact r6 D t j m u hm fun k o G v z=>Pt h I k o G v z
 |_=>rfl
def I7(v:jk g C ops effs E F){op:Op}{j m:Nat}(u:j<=m)(hm:m<=ops.size)(h:oQ ops op j m=true):∀y∈op.operands,dp (E m) y=dp (E j) y:=sH (wy v) u hm h
structure db (γ:Glob) (κ:Ctx) (ops:Array Oper) (effs:List Nat) (n:Nat) (E:Nat->Env) (F:Nat->Fr) (p:Nat) (L:Ls) (listed:Array Bool) (a:Act) (w:World):Prop where
 hd:Marks κ w a.defers
 hn:a.tmps.size=n
 hs:listed.size=ops.size
 hp:p<=ops.size
 low:∀e∈effs,e <p->listed.getD e true=true
 pu:∀e∈effs,p<=e->e <ops.size->listed.getD e true=false
 bo:ar γ κ (F p) L w
 done:∀(k:Nat) (o:Oper) (t:Nat),ops[k]?=some o->o.dst=some t->listed.getD k true=true->SR (MA κ.M (F p) L) L w (E (k+1) t) (a.tmps.getD t undef)
 rest:∀(t:Nat),(∀(k:Nat) (o:Oper),ops[k]?=some o->o.dst=some t->listed.getD k true=false)->SR (MA κ.M (F p) L) L w (E 0 t) (a.tmps.getD t undef)
 dc:∀(k:Nat) (o:Oper),ops[k]?=some o->listed.getD k true=true->∀e∈o.after,Region.binds .any e=true->listed.getD e.on false=true
variable {p:Nat} {L:Ls} {listed:Array Bool} {a:Act} {w:World} {E':Nat->Env}
def db.start(hd:Marks κ w a.defers)(hn:a.tmps.size=n)(z:ar γ κ (F 0) L w)(D:∀t,SR (MA κ.M (F 0) L) L w (E 0 t) (a.tmps.getD t undef)):db γ κ ops effs n E F 0 L (Array.replicate ops.size false) a w where
 hd:=hd
 hn:=hn
 hs:=by simp
 hp:=Nat.zero_le _
 low:=fun e _ h=>by omega
 pu:=fun e _ _ G=>by rw[Array.getD_eq_getD_getElem?,Array.getElem?_replicate,if_pos G];rfl
 bo:=z
 done:=fun k o t y _ u=>by
  have v:=(Array.getElem?_eq_some_iff.1 y).1;rw[Array.getD_eq_getD_getElem?,Array.getElem?_replicate,if_pos v]at u;cases u
 rest:=fun t _=>D t
 dc:=fun k o y u=>by
  have v:=(Array.getElem?_eq_some_iff.1 y).1;rw[Array.getD_eq_getD_getElem?,Array.getElem?_replicate,if_pos v]at u;cases u
def db.jn(h:db γ κ ops effs n E F p L listed a w){i k:Nat}(ha:gG ops i k):(∀(o:Oper),ops[i]?=some o->∀e∈o.after,Region.binds .any e=true->listed.getD e.on false=true)->listed.getD k true=true:=by
 induction ha with
 |one i o e z v u=>intro y;exact iB (y o z e v u)
 |more i k o e z v u ha G=>
  intro y;have h1:=iB (y o z e v u);exact G fun I D=>h.dc e.on I D h1
def db.slot(hok:ql ops effs)(I:jk g C ops effs E F)(h:db γ κ ops effs n E F p L listed a w){i t:Nat}(hi:i<=ops.size)
  (h1:∀(k:Nat) (ok:Oper),ops[k]?=some ok->ok.dst=some t->listed.getD k true=true->k <i)(h2:∀(k:Nat) (ok:Oper),ops[k]?=some ok->ok.dst=some t->listed.getD k true=false->i<=k):SR (MA κ.M (F p) L) L w (E i t) (a.tmps.getD t undef):=by
 by_cases v:∃(k:Nat) (ok:Oper),ops[k]?=some ok/\ok.dst=some t/\listed.getD k true=true
 ·obtain⟨k,ok,u,hd,z⟩:=v;have D:=h1 k ok u hd z;rw[o4 I t (k+1) i (by omega) hi fun m om J U G=>hok.dst m om k ok t G u (by omega) hd];exact h.done k ok t u hd z
 ·have y:∀(k:Nat) (o:Oper),ops[k]?=some o->o.dst=some t->listed.getD k true=false:=fun k o u hd=>by
   rw[<- Bool.not_eq_true];exact fun z=>v ⟨k,o,u,hd,z⟩
  rw[o4 I t 0 i (Nat.zero_le _) hi fun k o _ D u hd=>by have:=h2 k o u hd (y k o u hd);omega];exact h.rest t y
def uz(hok:DrawB ops){listed:Array Bool}(hs:listed.size=ops.size)(hr:Region.ready .any ops listed=[]):∀k,k <ops.size->listed.getD k true=true:=by
 intro k
 induction k using Nat.strongRecOn with
 |_ k ih=>
  intro v;rw[<- Bool.not_eq_false];intro G
  have y:k∈Region.ready .any ops listed:=mem_ready.2 ⟨G,ops[k],Array.getElem?_eq_getElem v,fun e D z=>by
   have u:=hok.back k _ (Array.getElem?_eq_getElem v) e D z;exact CS (by rw[hs];omega) (ih e.on u (by omega))⟩
  rw[hr]at y;cases y
def M_{fr:Fr}{env:Env}{op:Op}{z:List Nat}(D:ar γ κ fr L w)(h:dy env op=some z)(G:∀y∈op.operands,SR (MA κ.M fr L) L w (dp env y) (a.eval y)):∀b∈z,b <fr.length:=by
 have v:∀y∈op.operands,∀b,(∃j,rd env y=.lp b j)\/(∃sz k j,rd env y=.le b sz k j)\/rd env y=.ls b->b <fr.length:=fun y I b u=>by
  have h1:=cu (G y I);rcases u with⟨j,u⟩|⟨sz,k,j,u⟩|u
  ·rw[u]at h1;obtain⟨g,h2,_⟩:=lB h1;exact D.lim _ _ h2
  ·rw[u]at h1;obtain⟨_,_,_,h2,_⟩:=pw h1;exact D.lim _ _ h2
  ·rw[u]at h1;obtain⟨h2,_⟩:=kH h1;exact D.lim _ _ h2
 intro b u;cases op
 case load t y=>
  refine v y (by simp[Op.operands]) b ?_;rcases EH h b u with⟨j,e⟩|⟨sz,k,j,e⟩
  ·exact .inl ⟨j,e⟩
  ·exact .inr (.inl ⟨sz,k,j,e⟩)
 case indexAddr t x i=>exact v x (by simp[Op.operands]) b (.inr (.inr ((zK h).2 b u)))
 case binOp J U x y V=>rw[(zH h).1]at u;cases u
 case call c=>rw[(zI h).1]at u;cases u
 all_goals first
  |(have h:some []=some z:=h;cases h;cases u;done)
  |(have h:none=some z:=h;cases h)
def DL(V:mS g C ops effs E F B)(h:db γ κ ops effs n E' F p L listed a w){i:Nat}{o:Oper}(ho:ops[i]?=some o)(hl:listed.getD i true=false)(D:i∉effs){m:Nat}{om:Oper}(h1:i <m)(h2:m <p)(G:m <B)(h3:m∈effs)(J:ops[m]?=some om):∃y v,gF (E m) om.op=some y/\dy (E i) o.op=some v/\∀b∈v,b∉y:=by
 have z:((Region.before ops).getD m 0).testBit i=false:=by
  rw[<- Bool.not_eq_true];intro z;have:=h.jn (mV z) fun o' I=>h.dc m o' I (h.low m h3 h2);rw[hl]at this;cases this
 have u:=List.all_eq_true.1 (V.2 m om G J).1 i (List.mem_range.2 h1);unfold u9 at u;have hm:bI effs m=true:=by rw[<- Bool.not_eq_false];exact fun u=>fp.1 u h3
 simp only[J,ho,hm,fp.2 D,z,Bool.false_or,Bool.and_eq_true]at u;obtain⟨y,v,e1,U,e3⟩:=xN u.2;have Z:=(Array.getElem?_eq_some_iff.1 J).1;rw[zJ (sH V (by omega) (by omega) u.1)]at U;exact⟨y,v,e1,U,e3⟩
def DM(G:mS g C ops effs E F B)(h:db γ κ ops effs n E' F p L listed a w)(hp:p<=B){i:Nat}{o:Oper}(ad:i <B)(ho:ops[i]?=some o)(hl:listed.getD i true=false)(v:i∉effs)(I:∀k,gG ops i k->listed.getD k true=true)
  (aB:∀y∈o.op.operands,SR (MA κ.M (F p) L) L w (dp (E i) y) (a.eval y)){x:SV}(hx:step g C (some effs) i (E i) (F i) o.op=some (x,F (i+1),[])):step g C (some effs) i (E i) (F p) o.op=some (x,F p,[]):=by
 have hB:=G.1;have aG:=hx;unfold step at hx⊢;simp only[fp.2 v]at hx⊢;have av:=uj G ad v;rw[av]at hx
 -- the effects between
 have up:∀(m:Nat) (om:Oper),p<=m->m <i->m∈effs->ops[m]?=some om->∃D J,gF (E m) om.op=some D/\dy (E i) o.op=some J/\∀b∈J,b∉D:=fun m om h1 h2 h3 kD=>by
  have U:((Region.before ops).getD i 0).testBit m=false:=by
   rw[<- Bool.not_eq_true];intro U;have:=I m (mV U);rw[h.pu m h3 h1 (by omega)]at this;cases this
  have hf:=List.all_eq_true.1 (G.2 i o ad ho).1 m (List.mem_range.2 h2);unfold u9 at hf;have hm:bI effs m=true:=by rw[<- Bool.not_eq_false];exact fun hf=>fp.1 hf h3
  simp only[kD,ho,hm,fp.2 v,U,Bool.false_or,Bool.and_eq_true]at hf;obtain⟨D,J,e1,Z,e3⟩:=xN hf.2;rw[Qx (sH G (by omega) (by omega) hf.1)]at e1;exact⟨D,J,e1,Z,e3⟩
 have dn:=fun(m:Nat) (om:Oper) (h1:i <m) (h2:m <p) (h3:m∈effs) (h4:ops[m]?=some om)=>DL G h ho hl v h1 h2 (by omega) h3 h4;by_cases ab:∃m,m∈effs/\((p<=m/\m <i)\/(i <m/\m <p))
 ·obtain⟨m,ag,u⟩:=ab;have V:m <ops.size:=by have:=hp;omega
  obtain⟨_,J,_,z,_⟩:∃D J,gF (E m) (ops[m]).op=some D/\dy (E i) o.op=some J/\∀b∈J,b∉D:=by
   rcases u with u|u
   ·exact up m _ u.1 u.2 ag (Array.getElem?_eq_getElem V)
   ·exact dn m _ u.1 u.2 ag (Array.getElem?_eq_getElem V)
  cases al:mq o.op with
  |true=>exact yF al z hx
  |false=>
  unfold gU at hx⊢;simp only[al]at hx⊢;obtain⟨an,_,_⟩:=ud hx;have ax:=zL z an
  have ap:∀b∈J,(F i)[b]?=(F p)[b]?:=fun b U=>by
   rcases Nat.lt_or_ge i p with h1|h1
   ·refine(uo G i b (ax b U) p (by omega) hp fun m om h2 h3 h4 h5=>?_).symm;have aA:m≠i:=fun e=>v (by rw[<- e];exact h4);obtain⟨D,aF,e1,Z,e3⟩:=dn m om (by omega) h3 h4 h5;rw[z]at Z;cases Z;exact⟨D,e1,e3 b U⟩
   ·have au:b <(F p).length:=M_ h.bo z aB b U;refine uo G p b au i h1 (by omega) fun m om h2 h3 h4 h5=>?_;obtain⟨D,aF,e1,Z,e3⟩:=up m om h2 h3 h4 h5;rw[z]at Z;cases Z;exact⟨D,e1,e3 b U⟩
  rw[<- zM z ap,an];rfl
 ·have ao:F i=F p:=by
   rcases Nat.lt_or_ge i p with h1|h1
   ·refine(r7 G i p (by omega) hp fun m h2 h3 h4=>?_).symm;have aA:m≠i:=fun e=>v (by rw[<- e];exact h4);exact ab ⟨m,h4,.inr ⟨by omega,h3⟩⟩
   ·exact r7 G p i h1 (by omega) fun m h2 h3 h4=>ab ⟨m,h4,.inl ⟨h2,h3⟩⟩
  rw[<- ao];exact hx
def Qt{rd:Option Nat}{dn:Nat}(hS:ee g.P γ C)(hok:ql ops effs)(bi:iA n ops.toList=true)(hE:jk g C ops effs E F){Q:Exit->Act->World->Prop}
  (hK:∀L a w,Marks κ w a.defers->a.tmps.size=n->ar γ κ (F ops.size) L w->(∀t,SR (MA κ.M (F ops.size) L) L w (E ops.size t) (a.tmps.getD t undef))->Q .normal a w):
  ∀(I:Nat) (p:Nat) (L:Ls) (listed:Array Bool) (a:Act) (w:World),fC listed ops.size<=I->db γ κ ops effs n E F p L listed a w->wpAnyIn (Fw rd) dn g.P .any ops Q I listed a w:=by
 have aA:∀(i:Nat) (o:Oper),ops[i]?=some o->∀d,o.dst=some d->d <n:=fun i o Z d hd=>jv bi (Array.mem_toList_iff.2 (Array.mem_of_getElem? Z)) hd
 have fin:∀(p:Nat) (L:Ls) (listed:Array Bool) (a:Act) (w:World),(∀k,k <ops.size->listed.getD k true=true)->db γ κ ops effs n E F p L listed a w->Q .normal a w:=fun p L listed a w ad h=>by
  have hm:∀m,p<=m->m <ops.size->m∉effs:=fun m h1 h2 h3=>by
   have:=h.pu m h3 h1 h2;rw[ad m h2]at this;cases this
  have hF:=uk hE p ops.size h.hp (Nat.le_refl _) hm;refine hK L a w h.hd h.hn (by rw[hF];exact h.bo) fun t=>?_;rw[hF]
  exact h.slot hok hE (Nat.le_refl _) (fun k ok D _ _=>(Array.getElem?_eq_some_iff.1 D).1) (fun k ok D _ hl=>by
   have:=ad k (Array.getElem?_eq_some_iff.1 D).1;rw[hl]at this;cases this)
 intro I
 induction I with
 |zero=>
  intro p L listed a w hu h;have ad:=t_ (listed:=listed) ops.size (by omega);refine⟨?_,fin p L listed a w ad h⟩
  cases hr:Region.ready .any ops listed with
  |nil=>rfl
  |cons i l=>
   have hm:i∈Region.ready .any ops listed:=by rw[hr];simp
   obtain⟨hl,o,Z,_⟩:=mem_ready.1 hm;have:=ad i (Array.getElem?_eq_some_iff.1 Z).1;rw[hl]at this;cases this
 |succ I ih=>
  intro p L listed a w hu h;refine⟨fun hr=>fin p L listed a w (uz hok.toDrawB h.hs hr) h,fun i hi=>?_⟩;obtain⟨hl,o,Z,an⟩:=mem_ready.1 hi;have J:=(Array.getElem?_eq_some_iff.1 Z).1;have bZ:=hE i o Z
  have b1:fC (listed.setIfInBounds i true) ops.size<=I:=by
   have:=rV hl ops.size;rw[if_pos J]at this;omega
  have ab:∀k,gG ops i k->listed.getD k true=true:=fun k ha=>h.jn ha fun o' aY=>by rw[Z]at aY;cases aY;exact an
  have ao:∀k,dC o k=true->listed.getD k true=true/\k <i:=fun k D=>by
   obtain⟨e,V,hb,rfl⟩:=iX D;exact⟨iB (an e V hb),hok.back i o Z e V hb⟩
  have aM:∀t,(.tmp t∈o.op.operands\/∃j oj,ops[j]?=some oj/\oj.dst=some t/\dC o j=true)->SR (MA κ.M (F p) L) L w (E i t) (a.tmps.getD t undef):=fun t ht=>by
   refine h.slot hok hE (by omega) (fun k ok D hd G=>?_) (fun k ok D hd G=>?_)
   ·have U:k≠i:=fun e=>by subst e;rw[hl]at G;cases G
    rcases ht with hy|⟨j,oj,ag,au,aB⟩
    ·rcases hok.use i o k ok t Z D U hd hy with h1|h1
     ·exact(ao k h1).2
     ·obtain⟨e,V,hb,rfl⟩:=iX h1;have:=iB (h.dc k ok D G e V hb);rw[hl]at this;cases this
    ·by_cases aF:k=j
     ·subst aF;exact(ao k aB).2
     ·exact absurd au (hok.dst j oj k ok t ag D aF hd)
   ·rcases Nat.lt_or_ge k i with aG|aX
    ·rcases ht with hy|⟨j,oj,ag,au,aB⟩
     ·rcases hok.use i o k ok t Z D (by omega) hd hy with h1|h1
      ·have:=(ao k h1).1;rw[G]at this;cases this
      ·obtain⟨e,V,hb,rfl⟩:=iX h1;have:=hok.back k ok D e V hb;omega
     ·by_cases aF:k=j
      ·subst aF;have:=(ao k aB).1;rw[G]at this;cases this
      ·exact absurd au (hok.dst j oj k ok t ag D aF hd)
    ·exact aX
  have be:∀y∈o.op.operands,SR (MA κ.M (F p) L) L w (dp (E i) y) (a.eval y):=fun y hy=>by
   cases y with
   |const v=>exact j6 v
   |global g=>exact .dead _
   |func f=>exact .t _ _ (.fn _ [] #[] #[] rfl (fun j x u hx _=>by simp at hx))
   |tmp t=>exact aM t (.inl hy)
  -- an effect comes up where its turn is
  have a1:i∈effs->F i=F p:=fun z=>by
   have bH:p<=i:=by
    rcases Nat.lt_or_ge i p with h1|h1
    ·have:=h.low i z h1;rw[hl]at this;cases this
    ·exact h1
   refine uk hE p i bH (by omega) fun m h1 h2 h3=>?_;have:=ab m (hok.eff i z m h3 J h2);rw[h.pu m h3 h1 (by omega)]at this;cases this
  -- what an operation that is no effect gives,it gives here too
  have ap:∀{x},step g C (some effs) i (E i) (F i) o.op=some (x,F (i+1),[])->step g C (some effs) i (E i) (F p) o.op=some (x,(if i∈effs then F (i+1)else F p),[]):=fun{x} hx=>by
   by_cases z:i∈effs
   ·rw[if_pos z,<- a1 z];exact hx
   ·rw[if_neg z];exact DM (wy hE) h (by have:=h.hp;omega) J Z hl z ab be hx
  -- what comes behind this operation,once it is carried out
  have next:∀(v:Value) (w':World) (L':Ls) (x:SV) (f1:Fr),f1=(if i∈effs then F (i+1)else F p)->Tr κ.M (F p) L w f1 L' w' []->ar γ κ f1 L' w'->SR (MA κ.M f1 L') L' w' x v->E (i+1)=aE (E i) o.dst x->wpAnyIn (Fw rd) dn g.P .any ops Q I (listed.setIfInBounds i true) (a.put o.dst v) w':=fun v w' L' x f1 bj hT ax hv al=>by
   obtain⟨q,hq,bS,bl,bd⟩:∃q,f1=F q/\q<=ops.size/\(∀e∈effs,e <q->(listed.setIfInBounds i true).getD e true=true)/\(∀e∈effs,q<=e->e <ops.size->(listed.setIfInBounds i true).getD e true=false):=by
    by_cases z:i∈effs
    ·refine⟨i+1,by rw[bj,if_pos z],J,fun e V aG=>?_,fun e V aX bb=>?_⟩
     ·by_cases av:e=i
      ·subst av;rw[Array.getD_eq_getD_getElem?,Array.getElem?_setIfInBounds_self_of_lt (by rw[h.hs];exact J)];rfl
      ·rw[getD_set_ne true (Ne.symm av)];exact ab e (hok.eff i z e V J (by omega))
     ·rw[getD_set_ne true (by omega),<- Bool.not_eq_true];intro bu;have:=h.jn (hok.eff e V i z bb (by omega)) fun o' aY=>h.dc e o' aY bu;rw[hl]at this;cases this
    ·refine⟨p,by rw[bj,if_neg z],h.hp,fun e V aG=>?_,fun e V aX bb=>?_⟩
     ·have av:e≠i:=fun e'=>z (by rw[<- e'];exact V);rw[getD_set_ne true (Ne.symm av)];exact h.low e V aG
     ·have av:e≠i:=fun e'=>z (by rw[<- e'];exact V);rw[getD_set_ne true (Ne.symm av)];exact h.pu e V aX bb
   subst hq;refine ih q L' _ _ _ b1 ⟨?_,?_,?_,bS,bl,bd,ax,fun k ok t D hd G=>?_,fun t ht=>?_,fun k ok D G e V bf=>?_⟩
   ·rw[put_defers];exact h.hd.tr h.bo hT
   ·rw[bR,h.hn]
   ·rw[Array.size_setIfInBounds];exact h.hs
   ·by_cases U:k=i
    ·subst U;rw[Z]at D;cases D;rw[al,hd,fx (by rw[h.hn];exact aA k o Z t hd)];show SR _ _ _ (cV _ t x t) v
     rw[iq];exact hv
    ·rw[cg (hok.dst i o k ok t Z D U hd)];rw[getD_set_ne true (Ne.symm U)]at G;exact hT.sr (h.done k ok t D hd G)
   ·have bk:o.dst≠some t:=fun hd=>by
     have aG:i <listed.size:=by rw[h.hs];exact J
     have:=ht i o Z hd;rw[Array.getD_eq_getD_getElem?,Array.getElem?_setIfInBounds_self_of_lt aG]at this;cases this
    rw[cg bk];refine hT.sr (h.rest t fun k ok D hd=>?_);have U:k≠i:=fun e=>by subst e;rw[Z]at D;cases D;exact bk hd
    have:=ht k ok D hd;rw[getD_set_ne true (Ne.symm U)]at this;exact this
   ·by_cases U:k=i
    ·subst U;rw[Z]at D;cases D;exact getD_set_true (an e V bf)
    ·rw[getD_set_ne true (Ne.symm U)]at G;exact getD_set_true (h.dc k ok D G e V bf)
  have h2:=bZ.2;unfold wpOpIn;simp only[Z]
  cases hg:o.guard with
  |none=>
   rw[hg]at h2;obtain⟨x,aN,al⟩:=h2;rw[if_pos (by simp[Region.wanted,hg])];exact(ii hS (ap aN) κ L a w h.bo be).wpIn fun v w' ⟨L',hT,ax,hv⟩=>next v w' L' x _ rfl hT ax hv al
  |some gj=>
   obtain⟨j,a6⟩:=gj;rw[hg]at h2;have aB:=hok.guard i o j a6 Z hg
   have bm:∀W,cG ops (E i) j a6=some W->Region.wanted o (yielded ops a.tmps)=W:=fun W hW=>oY (A:=MA κ.M (F p) L) (L:=L) (w:=w) hg hW fun d aR=>by
    cases ag:ops[j]? with
    |none=>rw[ag]at aR;cases aR
    |some oj=>
     rw[ag]at aR;have au:oj.dst=some d:=aR;exact⟨aM d (.inr ⟨j,oj,ag,au,aB⟩),by rw[h.hn];exact aA j oj ag d au⟩
   rcases h2 with⟨hW,x,aN,al⟩|⟨hW,bt,al⟩
   ·rw[bm _ hW,if_pos rfl];exact(ii hS (ap aN) κ L a w h.bo be).wpIn fun v w' ⟨L',hT,ax,hv⟩=>next v w' L' (.aT x) _ rfl hT ax (.aT _ _ hv) al
   ·rw[bm _ hW,if_neg (by simp)];refine⟨fun _ _=>trivial,next undef w L .no (F p) ?_ Tr.refl h.bo .no al⟩;by_cases z:i∈effs
    ·rw[if_pos z,bt,a1 z]
    ·rw[if_neg z]
end
def rE{cs:List SV}{i:Nat}(h:i∈SV.iJ cs):∃(j:Nat) (c:SV),cs[j]?=some c/\i∈c.refs:=by
 induction cs with
 |nil=>rw[SV.iJ]at h;cases h
 |cons d ds u=>
  rw[SV.iJ,List.mem_append]at h;rcases h with h|h
  ·exact⟨0,d,rfl,h⟩
  ·obtain⟨j,c,h1,h2⟩:=u h;exact⟨j+1,c,by simpa using h1,h2⟩
def SR.reach{A:Nat->Prop}{L:Ls}{w:World}{x:SV}{v:Value}(h:SR A L w x v):∀i∈x.refs,∃u,L i=some u:=by
 induction h with
 |t=>intro i y;rw[SV.refs]at y;cases y
 |nil=>intro i y;rw[SV.refs]at y;cases y
 |tc=>intro i y;rw[SV.refs]at y;cases y
 |nn=>intro i y;rw[SV.refs]at y;cases y
 |lp k j g h=>
   intro i y;rw[SV.refs]at y;obtain rfl:i=k:=by simpa using y
   exact⟨_,h⟩
 |ls k v h V=>
   intro i y;rw[SV.refs]at y;obtain rfl:i=k:=by simpa using y
   exact⟨_,h⟩
 |lv k sz a n b m c h=>
   intro i y;rw[SV.refs]at y;obtain rfl:i=k:=by simpa using y
   exact⟨_,h⟩
 |le k sz e j b m c h=>
   intro i y;rw[SV.refs]at y;obtain rfl:i=k:=by simpa using y
   exact⟨_,h⟩
 |lm k r h=>
   intro i y;rw[SV.refs]at y;obtain rfl:i=k:=by simpa using y
   exact⟨_,h⟩
 |lr k p e b n c t h Z=>
  intro i y;rw[SV.refs]at y;obtain rfl:i=k:=by simpa using y
  exact⟨_,h⟩
 |lo k p t v h Z V=>
  intro i y;rw[SV.refs]at y;obtain rfl:i=k:=by simpa using y
  exact⟨_,h⟩
 |agg G D I J z=>
  intro i y;rw[SV.refs]at y;obtain⟨j,c,h1,h2⟩:=rE y;exact z j c D[j]! h1 (by rw[Array.getElem!_eq_getD,Array.getD_eq_getD_getElem?];have:=aC h1;rw[Array.getElem?_eq_getElem (by omega)];rfl) i h2
 |aN G D I J z=>
  intro i y;rw[SV.refs]at y;obtain⟨j,c,h1,h2⟩:=rE y;exact z j c D[j]! h1 (by rw[Array.getElem!_eq_getD,Array.getD_eq_getD_getElem?];have:=aC h1;rw[Array.getElem?_eq_getElem (by omega)];rfl) i h2
 |fn f G U D I J z=>
  intro i y;rw[SV.refs]at y;obtain⟨j,c,h1,h2⟩:=rE y;exact z j c (U++D)[j]! h1 (by rw[Array.getElem!_eq_getD,Array.getD_eq_getD_getElem?];have:=aC h1;rw[Array.getElem?_eq_getElem (by omega)];rfl) i h2
 |aT x v h z=>intro i y;rw[SV.refs]at y;exact z i y
 |no=>intro i y;rw[SV.refs]at y;cases y
 |dead=>intro i y;rw[SV.refs]at y;cases y
mutual
theorem SV.wB{σ:Nat->Option Nat}:∀x:SV,(∀i∈x.refs,σ i=some i)->x.sub σ=x
 | .t x,_=>by rw[SV.sub]
 | .nil,_=>by rw[SV.sub]
 | .tc es,_=>by rw[SV.sub]
 | .nn es,_=>by rw[SV.sub]
 | .lp i j,h=>by rw[SV.sub,h i (by rw[SV.refs];simp)]
 | .ls i,h=>by rw[SV.sub,h i (by rw[SV.refs];simp)]
 | .lv i sz a n,h=>by rw[SV.sub,h i (by rw[SV.refs];simp)]
 | .le i sz k j,h=>by rw[SV.sub,h i (by rw[SV.refs];simp)]
 | .lm i,h=>by rw[SV.sub,h i (by rw[SV.refs];simp)]
 | .lo i p,h=>by rw[SV.sub,h i (by rw[SV.refs];simp)]
 | .lr i p k,h=>by rw[SV.sub,h i (by rw[SV.refs];simp)]
 | .agg v,h=>by rw[SV.sub,SV.oR v fun i u=>h i (by rw[SV.refs];exact u)]
 | .aN v,h=>by rw[SV.sub,SV.oR v fun i u=>h i (by rw[SV.refs];exact u)]
 | .fn f y v,h=>by rw[SV.sub,SV.oR v fun i u=>h i (by rw[SV.refs];exact u)]
 | .aT s,h=>by rw[SV.sub,SV.wB s fun i u=>h i (by rw[SV.refs];exact u)]
 | .no,_=>by rw[SV.sub]
 | .dead,_=>by rw[SV.sub]
theorem SV.oR{σ:Nat->Option Nat}:∀cs:List SV,(∀i∈SV.iJ cs,σ i=some i)->SV.cC σ cs=cs
 |[],_=>by rw[SV.cC]
 |c::cs,h=>by rw[SV.cC,SV.wB c fun i u=>h i (by rw[SV.iJ];simp[u]),SV.oR cs fun i u=>h i (by rw[SV.iJ];simp[u])]
end
def Br{σ:Nat->Option Nat}(b:Lb)(h:∀i∈b.refs,σ i=some i):iP σ b b:=by
 cases b with
 |box v T u=>exact⟨id,rfl,(SV.oR u h).symm⟩
 |row=>exact⟨id,rfl,rfl⟩
 |map v ks y=>exact⟨id,rfl,(SV.oR y h).symm⟩
 |own=>exact⟨id,rfl⟩
def ar.inside{γ:Glob}{κ:Ctx}{fr:Fr}{L:Ls}{w:World}(J:ar γ κ fr L w){k:Nat}{D:Lb}(hk:fr[k]?=some D):∀i∈D.refs,i <fr.length:=by
 intro i z;have h:=J.blk k D hk
 cases D with
 |box ro T cs=>
  obtain⟨g,us,_,_,h3,h4⟩:=h;obtain⟨j,c,y,I⟩:=rE z;have Z:=aC y;obtain⟨u,U⟩:=(h4 j c us[j] y (Array.getElem?_eq_getElem (by omega))).reach i I;exact J.lim _ _ U
 |row=>cases z
 |own=>cases z
 |map ro ks vs=>
  obtain⟨r,v,G,_,_,_,h4,_,I,_⟩:=h;obtain⟨j,c,y,V⟩:=rE z;have Z:=aC y;obtain⟨u,U⟩:=(I j c v[j] y (Array.getElem?_eq_getElem (by omega))).reach i V;exact J.lim _ _ U
def Hh{g:Cfg}{C:CallF}{env:Env}{fr fr':Fr}{T:Nat}{x:SV}{ks:List Nat}(h:bX g C env fr (.alloc T)=some (x,fr',ks)):∃G,x=.lp fr.length 0/\fr'=fr++[G]/\ks=[]/\∀(v:Env) (u:Fr),bX g C v u (.alloc T)=some (.lp u.length 0,u++[G],[]):=by
 have D:∀(env:Env) (fr:Fr),bX g C env fr (.alloc T)=match nM g.P T with|some z=>some (.lp fr.length 0,fr++[.box false T z],[])|none=>none:=fun env fr=>rfl
 rw[D]at h
 cases y:nM g.P T with
 |none=>rw[y]at h;cases h
 |some z=>
  rw[y]at h;cases h;exact⟨.box false T z,rfl,rfl,rfl,fun v u=>by rw[D,y]⟩
def Pw{P:Program}{t i j:Nat}{v x:SV}{fr fr':Fr}{ks:List Nat}(h:ik P fr t (.lp i j) v=some (x,fr',ks)):∃G lb',fr[i]?=some G/\fr'=fr.set i lb'/\x=.dead/\ks=[]/\∀(u:Fr) (z:Nat),u[z]?=some G->ik P u t (.lp z j) v=some (.dead,u.set z lb',[]):=by
 unfold ik at h;split at h
 ·cases h
 ·rename_i e n J;split at h
  ·cases h
  ·rename_i y;simp only at h;split at h
   ·rename_i T U I;split at h
    ·rename_i D;cases h;refine⟨_,_,I,rfl,rfl,rfl,fun u z h2=>?_⟩;unfold ik;simp only[J,y,h2,D]
    ·cases h
   ·cases h
def IL{α:Type}{l:List α}{k:Nat}{x:α}(h:l[k]?=some x):l.drop k=x::l.drop (k+1):=by
 obtain⟨u,v⟩:=List.getElem?_eq_some_iff.1 h;rw[List.drop_eq_getElem_cons u,v]
def nB:List Nat->Nat->Nat
 |[],_=>0
 |x::l,k=>if x=k then 0 else nB l k+1
theorem EA{k:Nat}:∀{l:List Nat},k∈l->l[nB l k]?=some k
 |x::l,h=>by
  unfold nB;split
  ·rename_i e;rw[e];rfl
  ·rename_i e;rw[List.getElem?_cons_succ];exact EA ((List.mem_cons.1 h).resolve_left (Ne.symm e))
def JQ{N n i:Nat}:bI ((List.range n).map (N+·)) i=true↔N<=i/\i <N+n:=by
 rw[qV,List.mem_map];constructor
 ·rintro⟨k,u,rfl⟩;have:=List.mem_range.1 u;omega
 ·rintro⟨h1,h2⟩;exact⟨i - N,List.mem_range.2 (by omega),by omega⟩
def ce(ops:Array Oper)(i:Nat):Nat:=match ops[i]? with
 |some o=>match o.dst with
  |some d=>d
  |none=>0
 |none=>0
structure l8 (ops:Array Oper) (N m:Nat):Prop extends DrawB ops where
 size:ops.size=N+(m+m)
 pr:∀k,k <m->∃(oa os:Oper) (T S:Nat) (x:Operand),ops[N+k]?=some oa/\ops[N+m+k]?=some os/\oa.dst=some (ce ops (N+k))/\oa.op=.alloc T/\oa.guard=none/\os.dst=none/\os.op=.store S (.tmp (ce ops (N+k))) x/\os.guard=none/\dC os (N+k)=true/\x≠.tmp (ce ops (N+k))/\∀(j:Nat) (o:Oper),ops[j]?=some o->j≠N+m+k->.tmp (ce ops (N+k))∉o.op.operands
def IJ{ops:Array Oper}{effs:List Nat}(h:uP ops effs=true):∃N m,effs=(List.range (m+m)).map (N+·)/\(∃r,effs=N::r)/\l8 ops N m:=by
 unfold uP at h;split at h
 ·cases h
 ·rename_i N r;simp only[Bool.and_eq_true]at h;obtain⟨⟨⟨⟨h1,h2⟩,h3⟩,h4⟩,h5⟩:=h;generalize hm:(N::r).length/2=m at*
  have h3:(N::r).length=m+m:=by simpa using h3
  refine⟨N,m,by rw[h3]at h4;simpa using h4,⟨r,rfl⟩,{xQ h1 with size:=by rw[h3]at h2;simpa using h2,pr:=fun k hk=>?_}⟩;have u:=List.all_eq_true.1 h5 k (List.mem_range.2 hk);unfold GH at u;split at u
  ·rename_i oa os I hs;split at u
   ·rename_i d T S y x G h8 h9;simp only[Bool.and_eq_true]at u;obtain⟨⟨⟨⟨⟨⟨V,Z⟩,g3⟩,g4⟩,g5⟩,g6⟩,g7⟩:=u;have hd:y=d:=(Nat.eq_of_beq_eq_true V).symm;subst hd;have D:ce ops (N+k)=y:=by unfold ce;rw[I];simp only[G]
    rw[D];refine⟨oa,os,T,S,x,I,hs,G,h8,by simpa using Z,by simpa using g4,h9,by simpa using g3,g5,fun e=>?_,fun j o J hj v=>?_⟩
    ·subst e;simp at g6
    ·have z:=List.all_eq_true.1 g7 j (List.mem_range.2 (Array.getElem?_eq_some_iff.1 J).1);rw[J]at z;have U:Nat.beq j (N+m+k)=false:=by rw[<- Bool.not_eq_true,Nat.beq_eq];exact hj
     simp only[U,Bool.false_or,Bool.not_eq_true']at z
     exact fp.1 z (by
      unfold tmpsOf;rw[List.mem_filterMap];exact⟨.tmp y,Array.mem_toList_iff.2 v,rfl⟩)
   ·cases u
  ·cases u
section
variable {g:Cfg} {γ:Glob} {κ:Ctx} {C:CallF} {ops:Array Oper} {effs:List Nat} {n N m:Nat} {E:Nat->Env} {F:Nat->Fr}
def Al(g:Cfg)(C:CallF)(ops:Array Oper)(i:Nat)(u:Lb):Prop:=∀o,ops[i]?=some o->∀(env:Env) (fr:Fr),bX g C env fr o.op=some (.lp fr.length 0,fr++[u],[])
def St(g:Cfg)(C:CallF)(ops:Array Oper)(E:Nat->Env)(i:Nat)(u v:Lb):Prop:=∀(o:Oper) (S d:Nat) (x:Operand),ops[i]?=some o->o.op=.store S (.tmp d) x->∀(env:Env) (fr:Fr) (j:Nat),rd env (.tmp d)=.lp j 0->rd env x=rd (E i) x->fr[j]?=some u->bX g C env fr o.op=some (.dead,fr.set j v,[])
def F9{i:Nat}{o:Oper}{e u:Env}{f v:Fr}(h:l_ g C effs ops i o e f u v)(hi:bI effs i=true)(hg:o.guard=none):∃x,bX g C e f o.op=some (x,v,[])/\u=aE e o.dst x:=by
 obtain⟨_,h⟩:=h;rw[hg]at h;obtain⟨x,h1,h2⟩:=h;unfold step at h1;simp only[hi]at h1;exact⟨x,h1,h2⟩
def l8.IE(H:l8 ops N m){j k:Nat}(hj:j <m)(hk:k <m)(h:ce ops (N+j)=ce ops (N+k)):j=k:=by
 obtain⟨z,_,_,_,_,u,_,a2,_⟩:=H.pr j hj;obtain⟨D,_,_,_,_,v,_,y,_⟩:=H.pr k hk;by_cases e:N+k=N+j
 ·omega
 ·exact absurd (h ▸ a2) (H.dst (N+j) z (N+k) D _ u v e y)
theorem GB(H:l8 ops N m)(z:jk g C ops effs E F)(u:∀i,bI effs i=true↔N<=i/\i <N+(m+m)):∀k,k<=m->∃B:List Lb,B.length=k/\F (N+k)=F 0++B/\∀(q:Nat) (y:Lb),B[q]?=some y->Al g C ops (N+q) y/\E (N+q+1) (ce ops (N+q))=.lp ((F 0).length+q) 0
 |0,_=>⟨[],rfl,by
   have:=uk z 0 (N+0) (Nat.zero_le _) (by rw[H.size];omega) fun i _ hi he=>by
    have:=(u i).1 (qV.2 he);omega
   rw[this];simp,fun q y h=>by simp at h⟩
 |k+1,hk=>by
  obtain⟨B,h1,h2,h3⟩:=GB H z u k (by omega);obtain⟨oa,_,T,_,_,I,_,a2,a3,a4,_⟩:=H.pr k (by omega);obtain⟨x,J,V⟩:=F9 (z (N+k) oa I) ((u (N+k)).2 ⟨by omega,by omega⟩) a4;rw[a3]at J;obtain⟨y,rfl,Z,_,c4⟩:=Hh J;refine⟨B++[y],by simp[h1],by rw[show N+(k+1)=N+k+1 by omega,Z,h2,List.append_assoc],fun q G v=>?_⟩;rcases Nat.lt_or_ge q k with ad|ab
  ·rw[List.getElem?_append_left (by omega)]at v;exact h3 q G v
  ·have D:=aC v;obtain rfl:q=k:=by simp at D;omega
   rw[List.getElem?_append_right (by omega),h1,Nat.sub_self]at v;cases v;refine⟨fun o U env fr=>?_,?_⟩
   ·rw[I]at U;cases U;rw[a3];exact c4 env fr
   ·rw[V,a2,h2];show cV _ _ _ _=_
    rw[iq];simp[h1]
theorem GC(H:l8 ops N m)(Z:jk g C ops effs E F)(J:∀i,bI effs i=true↔N<=i/\i <N+(m+m)){B0:List Lb}(hB:B0.length=m)(hF:F (N+m)=F 0++B0)(hD:∀(q:Nat) (lb:Lb),B0[q]?=some lb->E (N+q+1) (ce ops (N+q))=.lp ((F 0).length+q) 0):
  ∀k,k<=m->∃B1:List Lb,B1.length=k/\F (N+m+k)=F 0++(B1++B0.drop k)/\∀(q:Nat) (v D:Lb),B0[q]?=some v->B1[q]?=some D->St g C ops E (N+m+q) v D
 |0,_=>⟨[],rfl,by rw[Nat.add_zero,hF];simp,fun q v D _ h=>by simp at h⟩
 |k+1,hk=>by
  obtain⟨B1,h1,h2,h3⟩:=GC H Z J hB hF hD k (by omega);obtain⟨oa,os,T,S,x,a1,s1,a2,a3,a4,s2,s3,s4,s5,s6,s7⟩:=H.pr k (by omega);obtain⟨y,I,b2⟩:=F9 (Z (N+m+k) os s1) ((J (N+m+k)).2 ⟨by omega,by omega⟩) s4;obtain⟨v,u⟩:=am (xs:=B0) (k:=k) (by omega)
  have ag:rd (E (N+m+k)) (.tmp (ce ops (N+k)))=.lp ((F 0).length+k) 0:=by
   have e1:E (N+m+k) (ce ops (N+k))=.lp ((F 0).length+k) 0:=by
    rw[o4 Z (ce ops (N+k)) (N+k+1) (N+m+k) (by omega) (by rw[H.size];omega) fun j o hj _ V hd=>H.dst j o (N+k) oa _ V a1 (by omega) a2 hd];exact hD k v u
   show un (E (N+m+k) (ce ops (N+k)))=_
   rw[e1];rfl
  rw[s3]at I;have I:ik g.P (F (N+m+k)) S (rd (E (N+m+k)) (.tmp (ce ops (N+k)))) (rd (E (N+m+k)) x)=some (y,F (N+m+k+1),[]):=I;rw[ag]at I;obtain⟨lb,D,c1,c2,rfl,_,c3⟩:=Pw I
  have ab:(F (N+m+k))[(F 0).length+k]?=B0[k]?:=by
   rw[h2,List.getElem?_append_right (by omega),List.getElem?_append_right (by omega),List.getElem?_drop];congr 1;omega
  rw[ab,u]at c1;cases c1;refine⟨B1++[D],by simp[h1],?_,fun q l0 l1 G z=>?_⟩
  ·rw[show N+m+(k+1)=N+m+k+1 by omega,c2,h2];have hd:B0.drop k=v::B0.drop (k+1):=IL u;rw[hd,List.set_append_right _ _ (by omega),List.set_append_right _ _ (by omega),List.append_assoc];congr 2;rw[show(F 0).length+k - (F 0).length - B1.length=0 by omega];rfl
  ·rcases Nat.lt_or_ge q k with an|al
   ·rw[List.getElem?_append_left (by omega)]at z;exact h3 q l0 l1 G z
   ·have ad:=aC z;obtain rfl:q=k:=by simp at ad;omega
    rw[List.getElem?_append_right (by omega),h1,Nat.sub_self]at z;cases z;rw[u]at G;cases G;intro o S' d' x' V U env fr j r1 r2 r3;rw[s1]at V;cases V;rw[s3]at U;cases U;rw[s3];show ik g.P fr S (rd env (.tmp (ce ops (N+q)))) (rd env x)=_
    rw[r1,r2];exact c3 fr j r3
def gB(B:List Lb)(k:Nat):Lb:=(B[k]?).getD (.box true 0 [])
def j5(N m:Nat)(B0 B1:List Lb)(listed:Array Bool)(k:Nat):Lb:=match listed.getD (N+m+k) true with
 |true=>gB B1 k
 |false=>gB B0 k
def Gf(fr0:Fr)(N m:Nat)(B0 B1:List Lb)(listed:Array Bool)(pend:List Nat):Fr:=fr0++pend.map (j5 N m B0 B1 listed)
structure k9 (γ:Glob) (κ:Ctx) (ops:Array Oper) (N m n:Nat) (E:Nat->Env) (fr0:Fr) (B0 B1:List Lb) (pend:List Nat) (L:Ls) (listed:Array Bool) (a:Act) (w:World):Prop where
 hd:Marks κ w a.defers
 hn:a.tmps.size=n
 hs:listed.size=ops.size
 nd:pend.Nodup
 mem:∀k,k∈pend↔k <m/\listed.getD (N+k) true=true
 bo:ar γ κ (Gf fr0 N m B0 B1 listed pend) L w
 ptr:∀p k,pend[p]?=some k->SR (MA κ.M (Gf fr0 N m B0 B1 listed pend) L) L w (.lp (fr0.length+p) 0) (a.tmps.getD (ce ops (N+k)) undef)
 done:∀(i:Nat) (o:Oper) (t:Nat),i <N->ops[i]?=some o->o.dst=some t->listed.getD i true=true->SR (MA κ.M (Gf fr0 N m B0 B1 listed pend) L) L w (E (i+1) t) (a.tmps.getD t undef)
 rest:∀(t:Nat),(∀k,k <m->t≠ce ops (N+k))->(∀(i:Nat) (o:Oper),i <N->ops[i]?=some o->o.dst=some t->listed.getD i true=false)->SR (MA κ.M (Gf fr0 N m B0 B1 listed pend) L) L w (E 0 t) (a.tmps.getD t undef)
 dc:∀(k:Nat) (o:Oper),ops[k]?=some o->listed.getD k true=true->∀e∈o.after,Region.binds .any e=true->listed.getD e.on false=true
variable {fr0:Fr} {B0 B1:List Lb} {pend:List Nat} {L:Ls} {listed:Array Bool} {a:Act} {w:World}
def k9.start(H:l8 ops N m)(hd:Marks κ w a.defers)(hn:a.tmps.size=n)(z:ar γ κ fr0 L w)(D:∀t,SR (MA κ.M fr0 L) L w (E 0 t) (a.tmps.getD t undef)):k9 γ κ ops N m n E fr0 B0 B1 [] L (Array.replicate ops.size false) a w where
 hd:=hd
 hn:=hn
 hs:=by simp
 nd:=List.nodup_nil
 mem:=fun k=>by
  constructor
  ·intro h;cases h
  ·rintro⟨v,h⟩;rw[Array.getD_eq_getD_getElem?,Array.getElem?_replicate,if_pos (by rw[H.size];omega)]at h;cases h
 bo:=by unfold Gf;simpa using z
 ptr:=fun p k h=>by simp at h
 done:=fun k o t _ y _ u=>by
  have v:=(Array.getElem?_eq_some_iff.1 y).1;rw[Array.getD_eq_getD_getElem?,Array.getElem?_replicate,if_pos v]at u;cases u
 rest:=fun t _ _=>by unfold Gf;simpa using D t
 dc:=fun k o y u=>by
  have v:=(Array.getElem?_eq_some_iff.1 y).1;rw[Array.getD_eq_getD_getElem?,Array.getElem?_replicate,if_pos v]at u;cases u
def k9.jn(h:k9 γ κ ops N m n E fr0 B0 B1 pend L listed a w){i k:Nat}(ha:gG ops i k):(∀(o:Oper),ops[i]?=some o->∀e∈o.after,Region.binds .any e=true->listed.getD e.on false=true)->listed.getD k true=true:=by
 induction ha with
 |one i o e z v u=>intro y;exact iB (y o z e v u)
 |more i k o e z v u ha G=>
  intro y;have h1:=iB (y o z e v u);exact G fun I D=>h.dc e.on I D h1
def GY(H:l8 ops N m){t:Nat}(ht:∀k,k <m->t≠ce ops (N+k)){i:Nat}{o:Oper}(ho:ops[i]?=some o)(hd:o.dst=some t):i <N:=by
 rcases Nat.lt_or_ge i N with h|h
 ·exact h
 ·have z:=(Array.getElem?_eq_some_iff.1 ho).1;rw[H.size]at z;rcases Nat.lt_or_ge i (N+m)with h1|h1
  ·obtain⟨D,_,_,_,_,u,_,a2,_⟩:=H.pr (i - N) (by omega);rw[show N+(i - N)=i by omega,ho]at u;cases u;rw[show N+(i - N)=i by omega]at a2;rw[hd]at a2;cases a2;exact absurd (show ce ops i=ce ops (N+(i - N)) by rw[show N+(i - N)=i by omega]) (ht (i - N) (by omega))
  ·obtain⟨_,G,_,_,_,_,v,_,_,_,y,_⟩:=H.pr (i - N - m) (by omega);rw[show N+m+(i - N - m)=i by omega,ho]at v;cases v;rw[hd]at y;cases y
def k9.slot(H:l8 ops N m)(I:jk g C ops effs E F)(h:k9 γ κ ops N m n E fr0 B0 B1 pend L listed a w){i t:Nat}(ht:∀k,k <m->t≠ce ops (N+k))(hi:i<=ops.size)
  (h1:∀(k:Nat) (ok:Oper),ops[k]?=some ok->ok.dst=some t->listed.getD k true=true->k <i)(h2:∀(k:Nat) (ok:Oper),ops[k]?=some ok->ok.dst=some t->listed.getD k true=false->i<=k):SR (MA κ.M (Gf fr0 N m B0 B1 listed pend) L) L w (E i t) (a.tmps.getD t undef):=by
 by_cases v:∃(k:Nat) (ok:Oper),ops[k]?=some ok/\ok.dst=some t/\listed.getD k true=true
 ·obtain⟨k,ok,u,hd,z⟩:=v;have D:=h1 k ok u hd z;rw[o4 I t (k+1) i (by omega) hi fun q om J U G=>H.dst q om k ok t G u (by omega) hd];exact h.done k ok t (GY H ht u hd) u hd z
 ·have y:∀(k:Nat) (o:Oper),ops[k]?=some o->o.dst=some t->listed.getD k true=false:=fun k o u hd=>by
   rw[<- Bool.not_eq_true];exact fun z=>v ⟨k,o,u,hd,z⟩
  rw[o4 I t 0 i (Nat.zero_le _) hi fun k o _ D u hd=>by have:=h2 k o u hd (y k o u hd);omega];exact h.rest t ht fun i o _ u hd=>y i o u hd
def xj:(Gf fr0 N m B0 B1 listed pend).length=fr0.length+pend.length:=by unfold Gf;simp
def qm{i:Nat}(hi:i <fr0.length):(Gf fr0 N m B0 B1 listed pend)[i]?=fr0[i]?:=by unfold Gf;rw[List.getElem?_append_left hi]
def r8{p:Nat}:(Gf fr0 N m B0 B1 listed pend)[fr0.length+p]?=(pend[p]?).map (j5 N m B0 B1 listed):=by
 unfold Gf;rw[List.getElem?_append_right (by omega),show fr0.length+p - fr0.length=p by omega,List.getElem?_map]
def k9.fin(H:l8 ops N m)(hE:jk g C ops effs E F)(h:k9 γ κ ops N m n E fr0 B0 B1 pend L listed a w)(V:∀k,k <ops.size->listed.getD k true=true)(av:B1.length=m)(hF:F ops.size=fr0++B1)(hD:∀q,q <m->E ops.size (ce ops (N+q))=.lp (fr0.length+q) 0)
  (aA:∀b∈B1,xA b=true)(aF:∀(i:Nat) (o:Oper) (t:Nat),i <N->ops[i]?=some o->o.dst=some t->∀r∈(E ops.size t).refs,r <fr0.length)(h0:∀t,∀r∈(E 0 t).refs,r <fr0.length)(hfr:∀b∈fr0,∀r∈b.refs,r <fr0.length)(hκ:∀j v,κ.L j=some v->j <fr0.length):
  ∃L',ar γ κ (F ops.size) L' w/\∀t,SR (MA κ.M (F ops.size) L') L' w (E ops.size t) (a.tmps.getD t undef):=by
 have ag:∀k,k∈pend↔k <m:=fun k=>by
  rw[h.mem k];exact⟨fun q=>q.1,fun q=>⟨q,V _ (by rw[H.size];omega)⟩⟩
 have aB:∀k,k <m->∃b,B1[k]?=some b/\j5 N m B0 B1 listed k=b:=fun k u=>by
  obtain⟨b,hb⟩:=am (xs:=B1) (k:=k) (by omega);refine⟨b,hb,?_⟩;unfold j5;rw[V _ (by rw[H.size];omega)];show gB B1 k=b
  unfold gB;rw[hb];rfl
 have I:∀k,k <m->pend[nB pend k]?=some k:=fun k u=>EA ((ag k).2 u);have ap:∀p k,pend[p]?=some k->nB pend k=p:=fun p k hp=>vQ h.nd (I k ((ag k).1 (List.mem_of_getElem? hp))) hp;have Z:(fr0++B1).length=fr0.length+m:=by simp[av]
 let σ:Nat->Option Nat:=fun i=>if i <fr0.length then some i else(pend[i - fr0.length]?).map (fr0.length+·)
 let π:Nat->Nat:=fun j=>if j <fr0.length then j else fr0.length+nB pend (j - fr0.length)
 have al:∀i,i <fr0.length->σ i=some i:=fun i y=>if_pos y
 have au:∀p k,pend[p]?=some k->σ (fr0.length+p)=some (fr0.length+k):=fun p k hp=>by
  show(if _ then _ else _)=_
  rw[if_neg (by omega),show fr0.length+p - fr0.length=p by omega,hp];rfl
 have D:∀i,i <fr0.length->π i=i:=fun i y=>if_pos y
 have J:∀k,π (fr0.length+k)=fr0.length+nB pend k:=fun k=>by
  show(if _ then _ else _)=_
  rw[if_neg (by omega),show fr0.length+k - fr0.length=k by omega]
 have split:∀j,j <(fr0++B1).length->j <fr0.length\/∃k,k <m/\j=fr0.length+k:=fun j G=>by
  rw[Z]at G;rcases Nat.lt_or_ge j fr0.length with h1|h1
  ·exact .inl h1
  ·exact .inr ⟨j - fr0.length,by omega,by omega⟩
 obtain⟨r1,r2,r3⟩:=h.bo.tI (fr0++B1) π σ (fun j k G u e=>by
   rcases split j G with h1|⟨p,hp,rfl⟩<;>rcases split k u with h2|⟨q,hq,rfl⟩
   ·rw[D j h1,D k h2]at e;exact e
   ·rw[D j h1,J q]at e;omega
   ·rw[D k h2,J p]at e;omega
   ·rw[J p,J q]at e;have U:=I p hp;have e2:=I q hq;rw[show nB pend p=nB pend q by omega,e2]at U;cases U;rfl) (fun i j v y hv=>by
   have aG:=h.bo.lim i v hv;rw[xj]at aG;rcases Nat.lt_or_ge i fr0.length with h1|h1
   ·rw[al i h1]at y;cases y;exact⟨by rw[Z];omega,D i h1⟩
   ·obtain⟨p,rfl⟩:∃p,i=fr0.length+p:=⟨i - fr0.length,by omega⟩;obtain⟨k,u⟩:=am (xs:=pend) (k:=p) (by omega);rw[au p k u]at y;cases y;have aM:=(ag k).1 (List.mem_of_getElem? u);exact⟨by rw[Z];omega,by rw[J,ap p k u]⟩) (fun j z G=>by
   rcases split j (aC G)with h1|⟨k,u,rfl⟩
   ·rw[List.getElem?_append_left h1]at G;rw[D j h1];exact⟨z,by rw[qm h1];exact G,Br z fun i y=>al i (hfr z (List.mem_of_getElem? G) i y)⟩
   ·rw[List.getElem?_append_right (by omega),show fr0.length+k - fr0.length=k by omega]at G;obtain⟨b,an,ax⟩:=aB k u;rw[an]at G;cases G;rw[J];refine⟨z,by rw[r8,I k u,Option.map_some,ax],Br z fun i y=>?_⟩;have ad:=aA z (List.mem_of_getElem? an)
    cases z with
    |box ro T cs=>
     have y:i∈SV.iJ cs:=y;obtain⟨q,c,hq,hc⟩:=rE y;have h5:=List.all_eq_true.1 ad c (List.mem_of_getElem? hq);cases c <;>first|(cases h5;done)|(rw[SV.refs]at hc;cases hc)
    |row=>cases y
    |own=>cases y
    |map=>cases ad) (fun j v G=>by
   have ab:=hκ j v G;obtain⟨lb,U,_⟩:=h.bo.hand j v G;rw[qm ab]at U;exact⟨lb,lb,by rw[qm ab];exact U,by rw[List.getElem?_append_left ab];exact U,D j ab,id⟩)
 rw[hF];refine⟨_,r1,fun t=>?_⟩;have conv:∀{x:SV} {v:Value},SR (MA κ.M (Gf fr0 N m B0 B1 listed pend) L) L w x v->SR (MA κ.M (fr0++B1) (QW (fr0++B1).length L π)) (QW (fr0++B1).length L π) w (x.sub σ) v:=fun hx=>SR.sub σ (Nat.le_refl _) (fun b _ hb=>⟨r2 b hb,rfl⟩) r3 hx
 by_cases ao:∃k,k <m/\t=ce ops (N+k)
 ·obtain⟨k,u,rfl⟩:=ao;have U:=conv (h.ptr _ k (I k u))
  rw[hD k u];rw[SV.sub,au _ k (I k u)]at U;exact U
 ·have ht:∀k,k <m->t≠ce ops (N+k):=fun k u e=>ao ⟨k,u,e⟩
  have U:=h.slot H hE (i:=ops.size) ht (Nat.le_refl _) (fun k ok u _ _=>(Array.getElem?_eq_some_iff.1 u).1) (fun k ok u _ hl=>by
   have:=V k (Array.getElem?_eq_some_iff.1 u).1;rw[hl]at this;cases this)
  have e2:=conv U
  rw[SV.wB _ fun i y=>al i ?_]at e2
  ·exact e2
  ·by_cases hw:∃(i:Nat) (o:Oper),i <N/\ops[i]?=some o/\o.dst=some t
   ·obtain⟨q,o,h1,h2,h3⟩:=hw;exact aF q o t h1 h2 h3 i y
   ·rw[o4 hE t 0 ops.size (Nat.zero_le _) (Nat.le_refl _) fun k o _ _ u hd=>hw ⟨k,o,GY H ht u hd,u,hd⟩]at y;exact h0 t i y
def G1{u:Array Bool}(h:∀k∈pend,u.getD (N+m+k) true=listed.getD (N+m+k) true):Gf fr0 N m B0 B1 u pend=Gf fr0 N m B0 B1 listed pend:=by
 unfold Gf;congr 1;refine List.map_congr_left fun k v=>?_;unfold j5;rw[h k v]
def G2{u:Array Bool}{p k:Nat}{b:Lb}(hn:pend.Nodup)(hp:pend[p]?=some k)(hb:j5 N m B0 B1 u k=b)(h:∀q∈pend,q≠k->u.getD (N+m+q) true=listed.getD (N+m+q) true):Gf fr0 N m B0 B1 u pend=(Gf fr0 N m B0 B1 listed pend).set (fr0.length+p) b:=by
 have G:=aC hp;refine List.ext_getElem? fun j=>?_;rcases Nat.lt_or_ge j fr0.length with h1|h1
 ·rw[List.getElem?_set_ne (by omega),qm h1,qm h1]
 ·obtain⟨q,rfl⟩:∃q,j=fr0.length+q:=⟨j - fr0.length,by omega⟩;by_cases e:q=p
  ·subst e;rw[List.getElem?_set_self (by rw[xj];omega),r8,hp,Option.map_some,hb]
  ·rw[List.getElem?_set_ne (by omega),r8,r8]
   cases y:pend[q]? with
   |none=>rfl
   |some z=>
    have v:z≠k:=fun D=>by subst D;exact e (vQ hn y hp)
    simp only[Option.map_some];unfold j5;rw[h z (List.mem_of_getElem? y) v]
def Qs{dd:Option Nat}{dn:Nat}(hS:ee g.P γ C)(H:l8 ops N m)(bf:∀i,bI effs i=true↔N<=i/\i <N+(m+m))(b7:iA n ops.toList=true)(hE:jk g C ops effs E F)(b3:∀i,i<=N->F i=fr0)
  (eM:B0.length=m)(dj:∀(q:Nat) (lb:Lb),B0[q]?=some lb->Al g C ops (N+q) lb)(eR:B1.length=m)(dK:∀(q:Nat) (Z aR:Lb),B0[q]?=some Z->B1[q]?=some aR->St g C ops E (N+m+q) Z aR){Q:Exit->Act->World->Prop}
  (hK:∀pend L listed a w,(∀k,k <ops.size->listed.getD k true=true)->k9 γ κ ops N m n E fr0 B0 B1 pend L listed a w->Q .normal a w):
  ∀(J:Nat) (pend:List Nat) (L:Ls) (listed:Array Bool) (a:Act) (w:World),fC listed ops.size<=J->k9 γ κ ops N m n E fr0 B0 B1 pend L listed a w->wpAnyIn (Fw dd) dn g.P .any ops Q J listed a w:=by
 have au:∀(i:Nat) (o:Oper),ops[i]?=some o->∀d,o.dst=some d->d <n:=fun i o G d hd=>jv b7 (Array.mem_toList_iff.2 (Array.mem_of_getElem? G)) hd;intro J
 induction J with
 |zero=>
  intro pend L listed a w hu h;have bl:=t_ (listed:=listed) ops.size (by omega);refine⟨?_,hK pend L listed a w bl h⟩
  cases hr:Region.ready .any ops listed with
  |nil=>rfl
  |cons i l=>
   have hm:i∈Region.ready .any ops listed:=by rw[hr];simp
   obtain⟨hl,o,G,_⟩:=mem_ready.1 hm;have:=bl i (Array.getElem?_eq_some_iff.1 G).1;rw[hl]at this;cases this
 |succ J ih=>
  intro pend L listed a w hu h;refine⟨fun hr=>hK pend L listed a w (uz H.toDrawB h.hs hr) h,fun i hi=>?_⟩;obtain⟨hl,o,G,av⟩:=mem_ready.1 hi;have bm:=(Array.getElem?_eq_some_iff.1 G).1;have et:=hE i o G
  have b1:fC (listed.setIfInBounds i true) ops.size<=J:=by
   have:=rV hl ops.size;rw[if_pos bm]at this;omega
  have df:∀k,gG ops i k->listed.getD k true=true:=fun k ha=>h.jn ha fun o' bj=>by rw[G]at bj;cases bj;exact av
  have ab:∀k,dC o k=true->listed.getD k true=true/\k <i:=fun k D=>by
   obtain⟨e,he,hb,rfl⟩:=iX D;exact⟨iB (av e he hb),H.back i o G e he hb⟩
  have aB:∀t,(∀k,k <m->t≠ce ops (N+k))->(.tmp t∈o.op.operands\/∃j oj,ops[j]?=some oj/\oj.dst=some t/\dC o j=true)->SR (MA κ.M (Gf fr0 N m B0 B1 listed pend) L) L w (E i t) (a.tmps.getD t undef):=fun t an ht=>by
   refine h.slot H hE an (by omega) (fun k ok D hd I=>?_) (fun k ok D hd I=>?_)
   ·have V:k≠i:=fun e=>by subst e;rw[hl]at I;cases I
    rcases ht with hy|⟨j,oj,ad,ag,aN⟩
    ·rcases H.use i o k ok t G D V hd hy with h1|h1
     ·exact(ab k h1).2
     ·obtain⟨e,he,hb,rfl⟩:=iX h1;have:=iB (h.dc k ok D I e he hb);rw[hl]at this;cases this
    ·by_cases aX:k=j
     ·subst aX;exact(ab k aN).2
     ·exact absurd ag (H.dst k ok j oj t D ad (Ne.symm aX) ag |>fun q=>absurd hd q)
   ·rcases Nat.lt_or_ge k i with cp|eb
    ·rcases ht with hy|⟨j,oj,ad,ag,aN⟩
     ·rcases H.use i o k ok t G D (by omega) hd hy with h1|h1
      ·have:=(ab k h1).1;rw[I]at this;cases this
      ·obtain⟨e,he,hb,rfl⟩:=iX h1;have:=H.back k ok D e he hb;omega
     ·by_cases aX:k=j
      ·subst aX;have:=(ab k aN).1;rw[I]at this;cases this
      ·exact absurd hd (H.dst k ok j oj t D ad (Ne.symm aX) ag)
    ·exact eb
  have z:∀j,j≠i->(listed.setIfInBounds i true).getD j true=listed.getD j true:=fun j hj=>getD_set_ne true (Ne.symm hj);have aM:(listed.setIfInBounds i true).getD i true=true:=by rw[Array.getD_eq_getD_getElem?,Array.getElem?_setIfInBounds_self_of_lt (by rw[h.hs];exact bm)];rfl
  have ao:∀(k:Nat) (o:Oper),ops[k]?=some o->(listed.setIfInBounds i true).getD k true=true->∀e∈o.after,Region.binds .any e=true->(listed.setIfInBounds i true).getD e.on false=true:=fun k ok D I e he b5=>by
   by_cases V:k=i
   ·subst V;rw[G]at D;cases D;exact getD_set_true (av e he b5)
   ·rw[z k V]at I;exact getD_set_true (h.dc k ok D I e he b5)
  rcases Nat.lt_or_ge i N with cf|cf
  ·-- an operation ahead of the new variables
   have ch:bI effs i=false:=by rw[<- Bool.not_eq_true,bf];omega
   have ek:∀t,.tmp t∈o.op.operands->∀k,k <m->t≠ce ops (N+k):=fun t ht k D e=>by
    obtain⟨_,_,_,_,_,_,_,_,_,_,_,_,_,_,_,hx⟩:=H.pr k D;exact hx i o G (by omega) (e ▸ ht)
   have cC:∀y∈o.op.operands,SR (MA κ.M (Gf fr0 N m B0 B1 listed pend) L) L w (dp (E i) y) (a.eval y):=fun y hy=>by
    cases y with
    |const v=>exact j6 v
    |global g=>exact .dead _
    |func f=>exact .t _ _ (.fn _ [] #[] #[] rfl (fun j x u hx _=>by simp at hx))
    |tmp t=>exact aB t (ek t hy) (.inl hy)
   have dr:F i=fr0:=b3 i (by omega);have b4:F (i+1)=fr0:=b3 (i+1) (by omega)
   have aG:∀{x},step g C (some effs) i (E i) (F i) o.op=some (x,F (i+1),[])->step g C (some effs) i (E i) (Gf fr0 N m B0 B1 listed pend) o.op=some (x,Gf fr0 N m B0 B1 listed pend,[]):=fun{x} hx=>by
    rw[dr,b4]at hx
    cases cR:pend with
    |nil=>unfold Gf;simpa using hx
    |cons k0 pr=>
     rw[<- cR];have ei:k0∈pend:=by rw[cR];simp
     obtain⟨cl,cj⟩:=(h.mem k0).1 ei;obtain⟨oa,_,_,_,_,a1,_⟩:=H.pr k0 cl
     have hb:((Region.before ops).getD (N+k0) 0).testBit i=false:=by
      rw[<- Bool.not_eq_true];intro hb;have:=h.jn (mV hb) fun o' bj=>h.dc (N+k0) o' bj cj;rw[hl]at this;cases this
     have hf:=List.all_eq_true.1 (hE (N+k0) oa a1).1 i (List.mem_range.2 (by omega));unfold u9 at hf;simp only[a1,G,ch,(bf (N+k0)).2 ⟨by omega,by omega⟩,hb,Bool.false_or,Bool.and_eq_true]at hf;obtain⟨wl,rl,e1,e2,e3⟩:=xN hf.2;rw[zJ (I7 hE (by omega) (by rw[H.size];omega) hf.1)]at e2;have bZ:=e2;unfold step at hx⊢;simp only[ch]at hx⊢
     cases ct:mq o.op with
     |true=>exact yF ct bZ hx
     |false=>
      unfold gU at hx⊢;simp only[ct]at hx⊢;obtain⟨bd,_,_⟩:=ud hx;have cp:=zL bZ bd;rw[<- zM (fr:=fr0) bZ fun b hb=>(qm (cp b hb)).symm,bd];rfl
   have next:∀(v:Value) (w':World) (L':Ls) (x:SV),Tr κ.M (Gf fr0 N m B0 B1 listed pend) L w (Gf fr0 N m B0 B1 listed pend) L' w' []->ar γ κ (Gf fr0 N m B0 B1 listed pend) L' w'->SR (MA κ.M (Gf fr0 N m B0 B1 listed pend) L') L' w' x v->E (i+1)=aE (E i) o.dst x->wpAnyIn (Fw dd) dn g.P .any ops Q J (listed.setIfInBounds i true) (a.put o.dst v) w':=fun v w' L' x hT U hv ap=>by
    have hG:Gf fr0 N m B0 B1 (listed.setIfInBounds i true) pend=Gf fr0 N m B0 B1 listed pend:=G1 fun k _=>z _ (by omega)
    have en:∀k,k <m->o.dst≠some (ce ops (N+k)):=fun k D e=>by
     obtain⟨oa,_,_,_,_,a1,_,a2,_⟩:=H.pr k D;exact H.dst i o (N+k) oa _ G a1 (by omega) a2 e
    refine ih pend L' _ _ _ b1 ⟨?_,?_,?_,h.nd,fun k=>?_,by rw[hG];exact U,fun p k hp=>?_,fun k ok t bH D hd I=>?_,fun t an ht=>?_,ao⟩
    ·rw[put_defers];exact h.hd.tr h.bo hT
    ·rw[bR,h.hn]
    ·rw[Array.size_setIfInBounds];exact h.hs
    ·rw[h.mem k];constructor
     ·rintro⟨q1,q2⟩;exact⟨q1,by rw[z _ (by omega)];exact q2⟩
     ·rintro⟨q1,q2⟩;exact⟨q1,by rw[z _ (by omega)]at q2;exact q2⟩
    ·rw[hG,cg (en k ((h.mem k).1 (List.mem_of_getElem? hp)).1)];exact hT.sr (h.ptr p k hp)
    ·rw[hG];by_cases V:k=i
     ·subst V;rw[G]at D;cases D;rw[ap,hd,fx (by rw[h.hn];exact au k o G t hd)];show SR _ _ _ (cV _ t x t) v
      rw[iq];exact hv
     ·rw[cg (H.dst i o k ok t G D V hd)];rw[z k V]at I;exact hT.sr (h.done k ok t bH D hd I)
    ·rw[hG]
     have cc:o.dst≠some t:=fun hd=>by
      have:=ht i o cf G hd;rw[aM]at this;cases this
     rw[cg cc];refine hT.sr (h.rest t an fun k ok bH D hd=>?_);have V:k≠i:=fun e=>by subst e;rw[G]at D;cases D;exact cc hd
     have:=ht k ok bH D hd;rw[z k V]at this;exact this
   have h2:=et.2;unfold wpOpIn;simp only[G]
   cases hg:o.guard with
   |none=>
    rw[hg]at h2;obtain⟨x,bb,ap⟩:=h2;rw[if_pos (by simp[Region.wanted,hg])];exact(ii hS (aG bb) κ L a w h.bo cC).wpIn fun v w' ⟨L',hT,U,hv⟩=>next v w' L' x hT U hv ap
   |some gj=>
    obtain⟨j,bu⟩:=gj;rw[hg]at h2;have aN:=H.guard i o j bu G hg;have e0:=(ab j aN).2
    have c_:∀W,cG ops (E i) j bu=some W->Region.wanted o (yielded ops a.tmps)=W:=fun W hW=>oY (A:=MA κ.M (Gf fr0 N m B0 B1 listed pend) L) (L:=L) (w:=w) hg hW fun d be=>by
     cases ad:ops[j]? with
     |none=>rw[ad]at be;cases be
     |some oj=>
      rw[ad]at be;have ag:oj.dst=some d:=be;refine⟨aB d (fun k D e=>?_) (.inr ⟨j,oj,ad,ag,aN⟩),by rw[h.hn];exact au j oj ad d ag⟩;obtain⟨oa,_,_,_,_,a1,_,a2,_⟩:=H.pr k D;exact H.dst (N+k) oa j oj d a1 ad (by omega) ag (e ▸ a2)
    rcases h2 with⟨hW,x,bb,ap⟩|⟨hW,eL,ap⟩
    ·rw[c_ _ hW,if_pos rfl];exact(ii hS (aG bb) κ L a w h.bo cC).wpIn fun v w' ⟨L',hT,U,hv⟩=>next v w' L' (.aT x) hT U (.aT _ _ hv) ap
    ·rw[c_ _ hW,if_neg (by simp)];exact⟨fun _ _=>trivial,next undef w L .no Tr.refl h.bo .no ap⟩
  ·have e4:=H.size;rcases Nat.lt_or_ge i (N+m)with ef|ef
   ·-- a new variable
    obtain⟨k,rfl⟩:∃k,i=N+k:=⟨i - N,by omega⟩;have aA:k <m:=by omega
    obtain⟨oa,os,T,S,x,a1,s1,a2,a3,a4,s2,s3,s4,s5,s6,s7⟩:=H.pr k aA;rw[G]at a1;cases a1;obtain⟨Z,al⟩:=am (xs:=B0) (k:=k) (by omega);have dY:=dj k Z al o G (E (N+k)) (Gf fr0 N m B0 B1 listed pend)
    have aF:step g C (some effs) (N+k) (E (N+k)) (Gf fr0 N m B0 B1 listed pend) o.op=some (.lp (Gf fr0 N m B0 B1 listed pend).length 0,Gf fr0 N m B0 B1 listed pend++[Z],[]):=by
     unfold step;simp only[(bf (N+k)).2 ⟨by omega,by omega⟩];exact dY
    have ev:listed.getD (N+m+k) true=false:=by
     rw[<- Bool.not_eq_true];intro ej;obtain⟨e,he,hb,ea⟩:=iX s5;have:=iB (h.dc (N+m+k) os s1 ej e he hb);rw[ea,hl]at this;cases this
    have bi:k∉pend:=fun D=>by
     have:=((h.mem k).1 D).2;rw[hl]at this;cases this
    have hG:Gf fr0 N m B0 B1 (listed.setIfInBounds (N+k) true) (pend++[k])=Gf fr0 N m B0 B1 listed pend++[Z]:=by
     unfold Gf;rw[List.map_append,<- List.append_assoc];congr 1
     ·congr 1;refine List.map_congr_left fun q _=>?_;unfold j5;rw[z _ (by omega)]
     ·show[j5 N m B0 B1 _ k]=[Z]
      unfold j5;rw[z _ (by omega),ev];show[gB B0 k]=_
      unfold gB;rw[al];rfl
    unfold wpOpIn;simp only[G];rw[if_pos (by simp[Region.wanted,a4])];refine(ii hS aF κ L a w h.bo (fun y hy=>by rw[a3]at hy;simp[Op.operands]at hy)).wpIn fun v w' ⟨L',hT,U,hv⟩=>?_;rw[<- hG]at U hv hT;refine ih (pend++[k]) L' _ _ _ b1 ⟨?_,?_,?_,?_,fun q=>?_,U,fun p q hp=>?_,fun j oj t ax hj hd aY=>?_,fun t an ht=>?_,ao⟩
    ·rw[put_defers];exact h.hd.tr h.bo hT
    ·rw[bR,h.hn]
    ·rw[Array.size_setIfInBounds];exact h.hs
    ·rw[List.nodup_append];refine⟨h.nd,by simp,fun q hq r hr e=>?_⟩;obtain rfl:r=k:=by simpa using hr
     exact bi (e ▸ hq)
    ·rw[List.mem_append,h.mem q];constructor
     ·rintro(⟨q1,q2⟩|q1)
      ·refine⟨q1,?_⟩;by_cases e:q=k
       ·subst e;exact aM
       ·rw[z _ (by omega)];exact q2
      ·obtain rfl:q=k:=by simpa using q1
       exact⟨aA,aM⟩
     ·rintro⟨q1,q2⟩;by_cases e:q=k
      ·exact .inr (by simp[e])
      ·rw[z _ (by omega)]at q2;exact .inl ⟨q1,q2⟩
    ·rcases Nat.lt_or_ge p pend.length with bS|bS
     ·rw[List.getElem?_append_left bS]at hp;have c4:=List.mem_of_getElem? hp;have a6:q≠k:=fun e=>bi (e ▸ c4);rw[cg (a:=a) (by rw[a2];intro e;exact a6 (H.IE ((h.mem q).1 c4).1 aA (Option.some.inj e).symm))];exact hT.sr (h.ptr p q hp)
     ·have c0:=aC hp;rw[List.getElem?_append_right bS]at hp;obtain rfl:p=pend.length:=by simp at c0;omega
      rw[Nat.sub_self]at hp;cases hp;rw[a2,fx (by rw[h.hn];exact au _ o G _ a2),show fr0.length+pend.length=(Gf fr0 N m B0 B1 listed pend).length from xj.symm];exact hv
    ·have a6:o.dst≠some t:=fun e=>H.dst (N+k) o j oj t G hj (by omega) hd e;rw[cg a6];rw[z j (by omega)]at aY;exact hT.sr (h.done j oj t ax hj hd aY)
    ·have a6:o.dst≠some t:=fun e=>by rw[a2]at e;cases e;exact an k aA rfl
     rw[cg a6];refine hT.sr (h.rest t an fun j oj ax hj hd=>?_);have:=ht j oj ax hj hd;rw[z j (by omega)]at this;exact this
   ·-- it is written
    obtain⟨k,rfl⟩:∃k,i=N+m+k:=⟨i - N - m,by omega⟩;have aA:k <m:=by omega
    obtain⟨oa,os,T,S,x,a1,s1,a2,a3,a4,s2,s3,s4,s5,s6,s7⟩:=H.pr k aA;rw[G]at s1;cases s1;obtain⟨Z,al⟩:=am (xs:=B0) (k:=k) (by omega);obtain⟨aR,bt⟩:=am (xs:=B1) (k:=k) (by omega);have bi:k∈pend:=(h.mem k).2 ⟨aA,(ab _ s5).1⟩;obtain⟨p,hp⟩:=List.getElem?_of_mem bi;have bd:∀t,x=.tmp t->t≠ce ops (N+k):=fun t e1 e2=>s6 (by rw[e1,e2])
    have ey:∀t,x=.tmp t->∀q,q <m->t≠ce ops (N+q):=fun t e1 q hq e2=>by
     by_cases er:q=k
     ·subst er;exact bd t e1 e2
     ·obtain⟨_,_,_,_,_,_,_,_,_,_,_,_,_,_,_,hx⟩:=H.pr q hq;exact hx (N+m+k) o G (by omega) (by rw[s3,<- e2,e1];simp[Op.operands])
    have b2:rd (cV (E (N+m+k)) (ce ops (N+k)) (.lp (fr0.length+p) 0)) (.tmp (ce ops (N+k)))=.lp (fr0.length+p) 0:=by
     show un (cV _ _ _ _)=_
     rw[iq];rfl
    have bk:dp (cV (E (N+m+k)) (ce ops (N+k)) (.lp (fr0.length+p) 0)) x=dp (E (N+m+k)) x:=by
     cases x with
     |tmp t=>show cV _ _ _ t=_;rw[qi (bd t rfl)];rfl
     |_=>rfl
    have dF:(Gf fr0 N m B0 B1 listed pend)[fr0.length+p]?=some Z:=by
     rw[r8,hp,Option.map_some];unfold j5;rw[hl];show some (gB B0 k)=_
     unfold gB;rw[al];rfl
    have c8:=dK k Z aR al bt o S (ce ops (N+k)) x G s3 (cV (E (N+m+k)) (ce ops (N+k)) (.lp (fr0.length+p) 0)) (Gf fr0 N m B0 B1 listed pend) (fr0.length+p) b2 (by unfold rd;rw[bk]) dF
    have aF:step g C (some effs) (N+m+k) (cV (E (N+m+k)) (ce ops (N+k)) (.lp (fr0.length+p) 0)) (Gf fr0 N m B0 B1 listed pend) o.op=some (.dead,(Gf fr0 N m B0 B1 listed pend).set (fr0.length+p) aR,[]):=by
     unfold step;simp only[(bf (N+m+k)).2 ⟨by omega,by omega⟩];exact c8
    have hG:Gf fr0 N m B0 B1 (listed.setIfInBounds (N+m+k) true) pend=(Gf fr0 N m B0 B1 listed pend).set (fr0.length+p) aR:=G2 h.nd hp (by
     unfold j5;rw[aM];show gB B1 k=_
     unfold gB;rw[bt];rfl) fun q _ hq=>z _ (by omega)
    unfold wpOpIn;simp only[G];rw[if_pos (by simp[Region.wanted,s4])];refine(ii hS aF κ L a w h.bo (fun y hy=>?_)).wpIn fun v w' ⟨L',hT,U,hv⟩=>?_
    ·rw[s3]at hy;have hy:y=.tmp (ce ops (N+k))\/y=x:=by simpa[Op.operands]using hy
     rcases hy with rfl|rfl
     ·show SR _ _ _ (cV _ _ _ _) _
      rw[iq];exact h.ptr p k hp
     ·rw[bk]
      cases y with
      |const v=>exact j6 v
      |global g=>exact .dead _
      |func f=>exact .t _ _ (.fn _ [] #[] #[] rfl (fun j x u hx _=>by simp at hx))
      |tmp t=>exact aB t (ey t rfl) (.inl (by rw[s3];simp[Op.operands]))
    ·rw[<- hG]at U hv hT;refine ih pend L' _ _ _ b1 ⟨?_,?_,?_,h.nd,fun q=>?_,U,fun p' q eo=>?_,fun j oj t ax hj hd aY=>?_,fun t an ht=>?_,ao⟩
     ·rw[put_defers];exact h.hd.tr h.bo hT
     ·rw[bR,h.hn]
     ·rw[Array.size_setIfInBounds];exact h.hs
     ·rw[h.mem q];constructor
      ·rintro⟨q1,q2⟩;exact⟨q1,by rw[z _ (by omega)];exact q2⟩
      ·rintro⟨q1,q2⟩;exact⟨q1,by rw[z _ (by omega)]at q2;exact q2⟩
     ·rw[cg (by rw[s2];intro e;cases e)];exact hT.sr (h.ptr p' q eo)
     ·rw[cg (by rw[s2];intro e;cases e)];rw[z j (by omega)]at aY;exact hT.sr (h.done j oj t ax hj hd aY)
     ·rw[cg (by rw[s2];intro e;cases e)];refine hT.sr (h.rest t an fun j oj ax hj hd=>?_);have:=ht j oj ax hj hd;rw[z j (by omega)]at this;exact this
def Nj{an:Option Nat}{dn:Nat}(hS:ee g.P γ C)(hok:uP ops effs=true)(V:iA n ops.toList=true){env env':Env}{fr fr':Fr}(he:pm g C effs ops env fr=some (env',fr')){Q:Exit->Act->World->Prop}
  (hK:∀L a w,Marks κ w a.defers->a.tmps.size=n->ar γ κ fr' L w->(∀t,SR (MA κ.M fr' L) L w (env' t) (a.tmps.getD t undef))->Q .normal a w)(hd:Marks κ w a.defers)(hn:a.tmps.size=n)(hC:ar γ κ fr L w)(hV:∀t,SR (MA κ.M fr L) L w (env t) (a.tmps.getD t undef)):wpAnyIn (Fw an) dn g.P .any ops Q ops.size (Array.replicate ops.size false) a w:=by
 obtain⟨N,m,Z,⟨r,D⟩,H⟩:=IJ hok;have z:∀i,bI effs i=true↔N<=i/\i <N+(m+m):=fun i=>by rw[Z];exact JQ
 have ao:=H.size;unfold pm at he;rw[D]at he;simp only at he;rw[<- D]at he;split at he
 ·cases he
 ·rename_i e1 r1 al;split at he
  ·rename_i y;cases he;obtain⟨E,F,a1,a2,a3,a4,a5⟩:=tB ops.toList 0 env fr al
   have G:jk g C ops effs E F:=fun i o ho=>by
    have:=a3 i o (by rw[Array.getElem?_toList];exact ho);rwa[Nat.zero_add]at this
   rw[Array.length_toList]at a4 a5
   have ab:∀i,i<=N->F i=fr:=fun i hi=>by
    rw[<- a2]
    exact uk G 0 i (Nat.zero_le _) (by omega) fun q _ I hm=>by
     have:=(z q).1 (qV.2 hm);omega
   obtain⟨B0,b1,b2,b3⟩:=GB H G z m (Nat.le_refl _);rw[a2]at b2 b3;obtain⟨B1,c1,c2,c3⟩:=GC H G z b1 (by rw[a2];exact b2) (fun q J I=>by rw[a2];exact(b3 q J I).2) m (Nat.le_refl _);rw[List.drop_eq_nil_of_le (by omega),List.append_nil,a2,show N+m+m=ops.size by omega]at c2;unfold pj at y;rw[Bool.and_eq_true]at y;obtain⟨h1,h2⟩:=y
   have hD:∀q,q <m->E ops.size (ce ops (N+q))=.lp (fr.length+q) 0:=fun q I=>by
    obtain⟨J,ag⟩:=am (xs:=B0) (k:=q) (by omega);obtain⟨oa,_,_,_,_,g1,_,g2,_⟩:=H.pr q I;rw[o4 G (ce ops (N+q)) (N+q+1) ops.size (by omega) (Nat.le_refl _) fun j o hj _ ho hd=>H.dst j o (N+q) oa _ ho g1 (by omega) g2 hd];exact(b3 q J ag).2
   refine Qs (κ:=κ) (n:=n) hS H z V G ab b1 (fun q J I=>(b3 q J I).1) c1 c3 (fun pend L' listed a' w' U hM=>?_) _ [] L _ a w ?_ (k9.start H hd hn hC fun t=>by rw[a1];exact hV t)
   ·have q1:∀b∈B1,xA b=true:=fun b hb=>List.all_eq_true.1 h1 b (by rw[<- a5,c2];simpa using hb)
    have q2:∀(i:Nat) (o:Oper) (t:Nat),i <N->ops[i]?=some o->o.dst=some t->∀r∈(E ops.size t).refs,r <fr.length:=fun i o t hi ho ad rr hr=>by
     have h3:=List.all_eq_true.1 h2 t (by
      unfold xS;rw[List.mem_filterMap];exact⟨o,List.mem_of_getElem? (i:=i) (by rw[List.getElem?_take,if_pos hi,Array.getElem?_toList];exact ho),ad⟩)
     rw[<- a4]at h3;have h4:=List.all_eq_true.1 h3 rr hr;simpa[Nat.blt_eq]using h4
    have q3:∀t,∀r∈(E 0 t).refs,r <fr.length:=fun t rr hr=>by
     rw[a1]at hr;obtain⟨u,hu⟩:=(hV t).reach rr hr;exact hC.lim _ _ hu
    have q4:∀b∈fr,∀r∈b.refs,r <fr.length:=fun b hb=>by
     obtain⟨k,hk⟩:=List.getElem?_of_mem hb;exact hC.inside hk
    have q5:∀j v,κ.L j=some v->j <fr.length:=fun j v hj=>by
     obtain⟨J,e1,_⟩:=hC.hand j v hj;exact aC e1
    obtain⟨L2,k1,k2⟩:=hM.fin H G U c1 c2 hD q1 q2 q3 q4 q5;rw[a5]at k1 k2;rw[a4]at k2;exact hK L2 a' w' hM.hd hM.hn k1 k2
   ·unfold fC;exact Nat.le_trans (List.countP_le_length) (by simp)
  ·cases he
end
def Da{ks:List Nat}{x:SV}(h:vu ks x=true):x.sub (dD ks)=x:=SV.wB x fun i u=>by
 have h1:=List.all_eq_true.1 h i u;rw[Bool.not_eq_true']at h1;unfold dD;rw[h1]
def Ky{ks:List Nat}{b:Lb}(h:sZ ks b=true):b.sub (dD ks)=b:=by
 have u:∀i∈b.refs,dD ks i=some i:=fun i D=>by
  have h1:=List.all_eq_true.1 h i D;rw[Bool.not_eq_true']at h1;unfold dD;rw[h1]
 cases b with
 |box v T y=>show Lb.box v T (SV.cC (dD ks) y)=_;rw[SV.oR y u]
 |map v k z=>show Lb.map v k (SV.cC (dD ks) z)=_;rw[SV.oR z u]
 |_=>rfl
def s9(ks:List Nat)(e:Env)(t:Nat):dR ks e t=(e t).sub (dD ks):=by
 unfold dR;split
 ·have:dD []=some:=rfl;rw[this,SV.wC]
 ·rfl
def Hl{g:Cfg}{C:CallF}{env:Env}{fr fr':Fr}{op:Op}{x:SV}{ks:List Nat}(v:vo op=true)(h:bX g C env fr op=some (x,fr',ks)){b:Nat}{z:Lb}(hb:fr[b]?=some z)(hk:b∉ks)(hl:sZ ks z=true):fr'[b]?=fr[b]?:=by
 have I:∀(r:Fr),(fr++r)[b]?=fr[b]?:=fun r=>List.getElem?_append_left (aC hb)
 have set:∀(i:Nat) (y:Lb),ks=[i]->((e_ [i] fr).set i y)[b]?=fr[b]?:=fun i y e=>by
  subst e;rw[List.getElem?_set_ne (by intro e;exact hk (by simp[e])),vx,hb];show some (z.sub (dD [i]))=some z
  rw[Ky hl]
 cases op
 case call c=>
  obtain⟨u,D,J⟩:=c;cases u
  case builtin G=>
   cases G
   case append=>
    unfold bX bT at h;simp only[gW]at h;split at h
    ·split at h
     ·unfold sk at h
      repeat'(split at h)
      all_goals first
       |(cases h;done)
       |(cases h;exact I _)
       |(cases h;exact set _ _ rfl)
     ·cases h
    ·cases h
   all_goals(cases v)
  all_goals(cases v)
 all_goals(cases v)
section
variable {g:Cfg} {γ:Glob} {κ:Ctx} {C:CallF} {ops:Array Oper} {effs:List Nat} {n:Nat} {E:Nat->Env} {F:Nat->Fr} {p:Nat} {L:Ls} {listed:Array Bool} {a:Act} {w:World}
abbrev qo(ops:Array Oper)(E:Nat->Env):Prop:=∀(i:Nat) (o:Oper),ops[i]?=some o->∀t,o.dst≠some t->E (i+1) t=E i t
theorem stay(hm:qo ops E)(t j:Nat):∀i,j<=i->i<=ops.size->(∀(k:Nat) (o:Oper),j<=k->k <i->ops[k]?=some o->o.dst≠some t)->E i t=E j t
 |0,h,_,_=>by
   obtain rfl:j=0:=by omega
   rfl
 |i+1,h,D,v=>by
  rcases Nat.lt_or_ge i j with h1|h1
  ·obtain rfl:j=i+1:=by omega
   rfl
  ·have y:=Array.getElem?_eq_getElem (xs:=ops) (i:=i) (by omega);rw[hm i _ y t (v i _ h1 (by omega) y)];exact stay hm t j i h1 (by omega) fun k o u z=>v k o u (by omega)
def db.F3(hok:DrawB ops)(hm:qo ops E)(h:db γ κ ops effs n E F p L listed a w){i t:Nat}(hi:i<=ops.size)
  (h1:∀(k:Nat) (ok:Oper),ops[k]?=some ok->ok.dst=some t->listed.getD k true=true->k <i)(h2:∀(k:Nat) (ok:Oper),ops[k]?=some ok->ok.dst=some t->listed.getD k true=false->i<=k):SR (MA κ.M (F p) L) L w (E i t) (a.tmps.getD t undef):=by
 by_cases v:∃(k:Nat) (ok:Oper),ops[k]?=some ok/\ok.dst=some t/\listed.getD k true=true
 ·obtain⟨k,ok,u,hd,z⟩:=v;have D:=h1 k ok u hd z;rw[stay hm t (k+1) i (by omega) hi fun m om I J G=>hok.dst m om k ok t G u (by omega) hd];exact h.done k ok t u hd z
 ·have y:∀(k:Nat) (o:Oper),ops[k]?=some o->o.dst=some t->listed.getD k true=false:=fun k o u hd=>by
   rw[<- Bool.not_eq_true];exact fun z=>v ⟨k,o,u,hd,z⟩
  rw[stay hm t 0 i (Nat.zero_le _) hi fun k o _ D u hd=>by have:=h2 k o u hd (y k o u hd);omega];exact h.rest t y
def db.looks(hok:DrawB ops)(hm:qo ops E)(h:db γ κ ops effs n E F p L listed a w){i:Nat}{o:Oper}(ho:ops[i]?=some o)(hl:listed.getD i true=false)(G:∀e∈o.after,Region.binds .any e=true->listed.getD e.on false=true):
  ∀t,(.tmp t∈o.op.operands\/∃j Z,ops[j]?=some Z/\Z.dst=some t/\dC o j=true)->SR (MA κ.M (F p) L) L w (E i t) (a.tmps.getD t undef):=fun t ht=>by
 have ag:=(Array.getElem?_eq_some_iff.1 ho).1
 have u:∀k,dC o k=true->listed.getD k true=true/\k <i:=fun k z=>by
  obtain⟨e,V,U,rfl⟩:=iX z;exact⟨iB (G e V U),hok.back i o ho e V U⟩
 refine h.F3 hok hm (by omega) (fun k ok z hd v=>?_) (fun k ok z hd v=>?_)
 ·have ad:k≠i:=fun e=>by subst e;rw[hl]at v;cases v
  rcases ht with hy|⟨j,Z,J,D,I⟩
  ·rcases hok.use i o k ok t ho z ad hd hy with h1|h1
   ·exact(u k h1).2
   ·obtain⟨e,V,U,rfl⟩:=iX h1;have:=iB (h.dc k ok z v e V U);rw[hl]at this;cases this
  ·by_cases y:k=j
   ·subst y;exact(u k I).2
   ·exact absurd D (hok.dst j Z k ok t J z y hd)
 ·rcases Nat.lt_or_ge k i with al|ab
  ·rcases ht with hy|⟨j,Z,J,D,I⟩
   ·rcases hok.use i o k ok t ho z (by omega) hd hy with h1|h1
    ·have:=(u k h1).1;rw[v]at this;cases this
    ·obtain⟨e,V,U,rfl⟩:=iX h1;have:=hok.back k ok z e V U;omega
   ·by_cases y:k=j
    ·subst y;have:=(u k I).1;rw[v]at this;cases this
    ·exact absurd D (hok.dst j Z k ok t J z y hd)
  ·exact ab
def ya{A:Nat->Prop}{e:Env}{op:Op}(h:∀t,.tmp t∈op.operands->SR A L w (e t) (a.tmps.getD t undef)):∀y∈op.operands,SR A L w (dp e y) (a.eval y):=fun y D=>by
 cases y with
 |const v=>exact j6 v
 |global g=>exact .dead _
 |func f=>exact .t _ _ (.fn _ [] #[] #[] rfl (fun j x u z _=>by simp at z))
 |tmp t=>exact h t D
def wq{i q:Nat}(hs:i <listed.size)(h:∀e∈effs,e <q->e≠i->listed.getD e true=true):∀e∈effs,e <q->(listed.setIfInBounds i true).getD e true=true:=fun e y v=>by
 by_cases u:e=i
 ·subst u;rw[Array.getD_eq_getD_getElem?,Array.getElem?_setIfInBounds_self_of_lt hs];rfl
 ·rw[getD_set_ne true (Ne.symm u)];exact h e y v u
def db.next(hok:DrawB ops)(U:iA n ops.toList=true){i:Nat}{o:Oper}(ho:ops[i]?=some o)(h:db γ κ ops effs n E F p L listed a w)(hl:listed.getD i true=false)(G:∀e∈o.after,Region.binds .any e=true->listed.getD e.on false=true){q:Nat}(hq:q<=ops.size)
  (ab:∀e∈effs,e <q->(listed.setIfInBounds i true).getD e true=true)(I:∀e∈effs,q<=e->e <ops.size->(listed.setIfInBounds i true).getD e true=false)
  {v:Value}{w':World}{L':Ls}{x:SV}(hT:Tr κ.M (F p) L w (F q) L' w' [])(ad:ar γ κ (F q) L' w')(hv:SR (MA κ.M (F q) L') L' w' x v)(ag:E (i+1)=aE (E i) o.dst x):db γ κ ops effs n E F q L' (listed.setIfInBounds i true) (a.put o.dst v) w':=by
 have Z:=(Array.getElem?_eq_some_iff.1 ho).1;have D:∀d,o.dst=some d->d <n:=fun d hd=>jv U (Array.mem_toList_iff.2 (Array.mem_of_getElem? ho)) hd;refine⟨?_,?_,?_,hq,ab,I,ad,fun k ok t y hd z=>?_,fun t ht=>?_,fun k ok y z e he J=>?_⟩
 ·rw[put_defers];exact h.hd.tr h.bo hT
 ·rw[bR,h.hn]
 ·rw[Array.size_setIfInBounds];exact h.hs
 ·by_cases u:k=i
  ·subst u;rw[ho]at y;cases y;rw[ag,hd,fx (by rw[h.hn];exact D t hd)];show SR _ _ _ (cV _ t x t) v
   rw[iq];exact hv
  ·rw[cg (hok.dst i o k ok t ho y u hd)];rw[getD_set_ne true (Ne.symm u)]at z;exact hT.sr (h.done k ok t y hd z)
 ·have V:o.dst≠some t:=fun hd=>by
   have al:i <listed.size:=by rw[h.hs];exact Z
   have:=ht i o ho hd;rw[Array.getD_eq_getD_getElem?,Array.getElem?_setIfInBounds_self_of_lt al]at this;cases this
  rw[cg V];refine hT.sr (h.rest t fun k ok y hd=>?_);have u:k≠i:=fun e=>by subst e;rw[ho]at y;cases y;exact V hd
  have:=ht k ok y hd;rw[getD_set_ne true (Ne.symm u)]at this;exact this
 ·by_cases u:k=i
  ·subst u;rw[ho]at y;cases y;exact getD_set_true (G e he J)
  ·rw[getD_set_ne true (Ne.symm u)]at z;exact getD_set_true (h.dc k ok y z e he J)
theorem db.op(hS:ee g.P γ C)(hok:DrawB ops)(D:iA n ops.toList=true)(hm:qo ops E){Ei:Env}{i:Nat}{o:Oper}(ho:ops[i]?=some o)(h:db γ κ ops effs n E F p L listed a w)(hl:listed.getD i true=false)(u:∀e∈o.after,Region.binds .any e=true->listed.getD e.on false=true)
  (ap:∀t,(.tmp t∈o.op.operands\/∃j oj,ops[j]?=some oj/\oj.dst=some t/\dC o j=true)->Ei t=E i t){q:Nat}(hq:q<=ops.size)
  (J:∀e∈effs,e <q->(listed.setIfInBounds i true).getD e true=true)(z:∀e∈effs,q<=e->e <ops.size->(listed.setIfInBounds i true).getD e true=false)
  (hst:match o.guard with
   |none=>∃x,step g C (some effs) i Ei (F p) o.op=some (x,F q,[])/\E (i+1)=aE (E i) o.dst x
   |some (j,y)=>(cG ops Ei j y=some true/\∃x,step g C (some effs) i Ei (F p) o.op=some (x,F q,[])/\E (i+1)=aE (E i) o.dst (.aT x))\/(cG ops Ei j y=some false/\F q=F p/\E (i+1)=aE (E i) o.dst .no))
  {rd:Option Nat}{dn:Nat}{Q:Exit->Act->World->Prop}{R:Act->World->Prop}(hR:∀L' a' w',db γ κ ops effs n E F q L' (listed.setIfInBounds i true) a' w'->R a' w'):wpOpIn (Fw rd) dn g.P ops Q i R a w:=by
 have ad:=h.looks hok hm ho hl u;have G:∀t,(.tmp t∈o.op.operands\/∃j oj,ops[j]?=some oj/\oj.dst=some t/\dC o j=true)->SR (MA κ.M (F p) L) L w (Ei t) (a.tmps.getD t undef):=fun t ht=>by rw[ap t ht];exact ad t ht
 have an:=ya (a:=a) fun t ht=>G t (.inl ht);unfold wpOpIn;simp only[ho]
 cases hg:o.guard with
 |none=>
  rw[hg]at hst;obtain⟨x,U,I⟩:=hst;rw[if_pos (by simp[Region.wanted,hg])];exact(ii hS U κ L a w h.bo an).wpIn fun v w' ⟨L',hT,ab,hv⟩=>hR L' _ _ (h.next hok D ho hl u hq J z hT ab hv I)
 |some gj=>
  obtain⟨j,y⟩:=gj;rw[hg]at hst;have au:=hok.guard i o j y ho hg
  have ao:∀W,cG ops Ei j y=some W->Region.wanted o (yielded ops a.tmps)=W:=fun W hW=>oY (A:=MA κ.M (F p) L) (L:=L) (w:=w) hg hW fun d V=>by
   cases Z:ops[j]? with
   |none=>rw[Z]at V;cases V
   |some oj=>
    rw[Z]at V;have al:oj.dst=some d:=V;exact⟨G d (.inr ⟨j,oj,Z,al,au⟩),by rw[h.hn];exact jv D (Array.mem_toList_iff.2 (Array.mem_of_getElem? Z)) al⟩
  rcases hst with⟨hW,x,U,I⟩|⟨hW,ag,I⟩
  ·rw[ao _ hW,if_pos rfl];exact(ii hS U κ L a w h.bo an).wpIn fun v w' ⟨L',hT,ab,hv⟩=>hR L' _ _ (h.next hok D ho hl u hq J z hT ab (.aT _ _ hv) I)
  ·rw[ao _ hW,if_neg (by simp)];refine⟨fun _ _=>trivial,hR L _ _ (h.next hok D ho hl u hq J z (x:=.no) ?_ ?_ .no I)⟩
   ·rw[ag];exact Tr.refl
   ·rw[ag];exact h.bo
structure jU (g:Cfg) (C:CallF) (ops:Array Oper) (effs:List Nat) (E:Nat->Env) (F:Nat->Fr) (m:Nat) (om:Oper) (x:SV) (ks:List Nat):Prop where
 hB:mS g C ops effs E F m
 hA:∀(i:Nat) (o:Oper),m <i->ops[i]?=some o->l_ g C effs ops i o (E i) (F i) (E (i+1)) (F (i+1))
 kD:ops[m]?=some om
 hg:om.guard=none
 hx:bX g C (E m) (F m) om.op=some (x,F (m+1),ks)
 hE:E (m+1)=aE (dR ks (E m)) om.dst x
 me:m∈effs
 fZ:vo om.op=true
 last:∀e∈effs,e <ops.size->e<=m
 behind:∀i,m <i->i <ops.size->((Region.before ops).getD i 0).testBit m=true
 Jq:∀(i:Nat) (o:Oper),i <m->ops[i]?=some o->((Region.before ops).getD m 0).testBit i=false->i∉effs/\oQ ops o.op i m=true/\(∀t∈p9 ops o,vu ks (E m t)=true)/\∃rl,dy (E m) o.op=some rl/\∀b∈rl,b∉ks/\∀lb,(F m)[b]?=some lb->sZ ks lb=true
variable {m:Nat} {om:Oper} {x:SV} {ks:List Nat}
def Kz{e:Env}{r:Fr}(h:yG effs ops m e r om ks=true):m∈effs/\vo om.op=true/\(∀e∈effs,e <ops.size->e<=m)/\(∀i,m <i->i <ops.size->((Region.before ops).getD i 0).testBit m=true)/\
  ∀(i:Nat) (o:Oper),i <m->ops[i]?=some o->((Region.before ops).getD m 0).testBit i=false->i∉effs/\oQ ops o.op i m=true/\(∀t∈p9 ops o,vu ks (e t)=true)/\∃v,dy e o.op=some v/\∀b∈v,b∉ks/\∀J,r[b]?=some J->sZ ks J=true:=by
 unfold yG at h;rw[Bool.and_eq_true,Bool.and_eq_true,Bool.and_eq_true]at h;obtain⟨h1,h2,h3,h4⟩:=h;refine⟨?_,h2,fun e he hs=>?_,fun i u hs=>?_,fun i o u V D=>?_⟩
 ·by_cases u:m∈effs
  ·exact u
  ·rw[fp.2 u]at h1;cases h1
 ·have:=List.all_eq_true.1 h3 e he;rw[Bool.or_eq_true,Nat.ble_eq,Nat.ble_eq]at this;omega
 ·have:=List.all_eq_true.1 h4 i (List.mem_range.2 hs);have y:Nat.beq i m=false:=by rw[<- Bool.not_eq_true,Nat.beq_eq];omega
  have z:Nat.blt i m=false:=by rw[<- Bool.not_eq_true,Nat.blt_eq];omega
  rw[y,z]at this;simpa using this
 ·have hs:=(Array.getElem?_eq_some_iff.1 V).1;have:=List.all_eq_true.1 h4 i (List.mem_range.2 hs);have y:Nat.beq i m=false:=by rw[<- Bool.not_eq_true,Nat.beq_eq];omega
  have z:Nat.blt i m=true:=by rw[Nat.blt_eq];omega
  rw[y,z]at this;simp only[D,V,Bool.false_or,Bool.and_eq_true]at this;obtain⟨Z,a2,a3,a4⟩:=this;refine⟨fp.1 (by simpa using Z),a2,fun t ht=>List.all_eq_true.1 a3 t ht,?_⟩;split at a4
  ·rename_i v I;refine⟨v,I,fun b D=>?_⟩;have:=List.all_eq_true.1 a4 b D;rw[Bool.and_eq_true]at this;refine⟨fp.1 (by simpa using this.1),fun J G=>?_⟩;have U:=this.2;rw[G]at U;exact U
  ·cases a4
def EK(E:Nat->Env)(ks:List Nat)(m:Nat):Nat->Env:=fun i=>if i<=m then dR ks (E i)else E i
def nN{i:Nat}(h:i<=m):EK E ks m i=dR ks (E i):=if_pos h
def jT{i:Nat}(h:m <i):EK E ks m i=E i:=if_neg (by omega)
def Au{i:Nat}{o:Oper}{e u:Env}{f v:Fr}(h:l_ g C effs ops i o e f u v):∃y,u=aE e o.dst y:=by
 have:=h.2;split at this
 ·obtain⟨y,_,h2⟩:=this;exact⟨_,h2⟩
 ·rcases this with⟨_,y,_,h2⟩|⟨_,_,h2⟩
  ·exact⟨_,h2⟩
  ·exact⟨_,h2⟩
def Pu{i:Nat}{o:Oper}{e z:Env}{f u:Fr}(h:l_ g C effs ops i o e f z u)(hn:i∉effs):u=f:=by
 have:=h.2
 have v:∀{op y},step g C (some effs) i e f op=some (y,u,[])->u=f:=fun{op y} h=>by
  unfold step at h;simp only[fp.2 hn]at h;exact(uW h).1
 split at this
 ·obtain⟨y,h2,_⟩:=this;exact v h2
 ·rcases this with⟨_,y,h2,_⟩|⟨_,h2,_⟩
  ·exact v h2
  ·exact h2
def jU.As(H:jU g C ops effs E F m om x ks):qo ops (EK E ks m):=fun i o u t v=>by
 rcases Nat.lt_trichotomy i m with h|h|h
 ·obtain⟨y,z⟩:=Au (H.hB.2 i o h u);rw[nN (by omega),nN (by omega),s9,s9,z,QX v]
 ·subst h;have:=H.kD;rw[u]at this;cases this;rw[jT (by omega),nN (Nat.le_refl _),H.hE,QX v]
 ·obtain⟨y,z⟩:=Au (H.hA i o h u);rw[jT (by omega),jT (by omega),z,QX v]
def jU.Ar(H:jU g C ops effs E F m om x ks):qo ops (fun i=>E (min i m)):=fun i o u t v=>by
 show E (min (i+1) m) t=E (min i m) t
 rcases Nat.lt_or_ge i m with h|h
 ·obtain⟨y,z⟩:=Au (H.hB.2 i o h u);rw[Nat.min_eq_left (show i+1<=m by omega),Nat.min_eq_left (show i<=m by omega),z,QX v]
 ·rw[Nat.min_eq_right (show m<=i+1 by omega),Nat.min_eq_right h]
theorem jU.F2(H:jU g C ops effs E F m om x ks):∀i,m <i->i<=ops.size->F i=F (m+1)
 |0,h,_=>by omega
 |i+1,h,y=>by
  rcases Nat.lt_or_ge m i with h1|h1
  ·have v:=Array.getElem?_eq_getElem (xs:=ops) (i:=i) (by omega);rw[Pu (H.hA i _ h1 v) fun u=>by have:=H.last i u (by omega);omega];exact jU.F2 H i h1 (by omega)
  ·obtain rfl:i=m:=by omega
   rfl
def KA{e:Env}{d:Option Nat}{y:SV}(h:∀t,d=some t->y.sub (dD ks)=y):dR ks (aE e d y)=aE (dR ks e) d y:=by
 funext t;rw[s9];by_cases hd:d=some t
 ·subst hd;show((cV e t y) t).sub _=cV _ t y t
  rw[iq,iq,h t rfl]
 ·rw[QX hd,QX hd,s9]
def jU.late(H:jU g C ops effs E F m om x ks)(hok:DrawB ops){E':Nat->Env}(h:db γ κ ops effs n E' F (m+1) L listed a w){i:Nat}{o:Oper}(U:i <m)(ho:ops[i]?=some o)(hl:listed.getD i true=false)(hb:((Region.before ops).getD m 0).testBit i=false):
  (∀t,(.tmp t∈o.op.operands\/∃j I,ops[j]?=some I/\I.dst=some t/\dC o j=true)->E i t=EK E ks m i t)/\
  (∀y,step g C (some effs) i (E i) (F i) o.op=some (y,F (i+1),[])->step g C (some effs) i (E i) (F (m+1)) o.op=some (y,F (m+1),[]))/\∀y,E (i+1)=aE (E i) o.dst y->EK E ks m (i+1)=aE (EK E ks m i) o.dst y:=by
 obtain⟨D,an,V,rl,aB,al⟩:=H.Jq i o U ho hb;have hB:=H.hB.1
 have G:∀t,(.tmp t∈o.op.operands\/∃j I,ops[j]?=some I/\I.dst=some t/\dC o j=true)->E m t=E i t/\t∈p9 ops o:=fun t ht=>by
  rcases ht with v|⟨j,I,ag,J,ax⟩
  ·refine⟨sH H.hB (by omega) (Nat.le_refl _) an (.tmp t) v,?_⟩;unfold p9 tV;rw[List.mem_append,List.mem_filterMap];exact .inl ⟨.tmp t,Array.mem_toList_iff.2 v,rfl⟩
  ·obtain⟨e,he,au,rfl⟩:=iX ax;have aF:=hok.back i o ho e he au;refine⟨r6 H.hB t i m (by omega) (Nat.le_refl _) fun k ok hk _ z hd=>?_,?_⟩
   ·exact hok.dst e.on I k ok t ag z (by omega) hd J
   ·unfold p9;rw[List.mem_append,List.mem_append,List.mem_filterMap];exact .inr (.inr ⟨e,Array.mem_toList_iff.2 he,by rw[ag];exact J⟩)
 refine⟨fun t ht=>?_,fun y v=>?_,fun y v=>?_⟩
 ·obtain⟨h1,h2⟩:=G t ht;rw[nN (by omega),s9,<- h1,Da (V t h2)]
 ·have u:dy (E i) o.op=some rl:=by rw[<- aB];exact(zJ (sH H.hB (by omega) (Nat.le_refl _) an)).symm
  have aA:=uj H.hB U D;have aM:=v;unfold step at v⊢;simp only[fp.2 D]at v⊢;rw[aA]at v
  cases ad:mq o.op with
  |true=>exact yF ad u v
  |false=>
  unfold gU at v⊢;simp only[ad]at v⊢;obtain⟨ao,_,_⟩:=ud v;have ab:=zL u ao
  have ap:∀b∈rl,(F i)[b]?=(F (m+1))[b]?:=fun b hb=>by
   have h1:(F m)[b]?=(F i)[b]?:=uo H.hB i b (ab b hb) m (by omega) (Nat.le_refl _) fun m' aN h2 h3 h4 h5=>by
    have aG:m'≠i:=fun e=>D (by rw[<- e];exact h4);obtain⟨wl,aR,e1,e2,e3⟩:=DL H.hB h ho hl D (show i <m' by omega) (by omega) h3 h4 h5;rw[u]at e2;cases e2;exact⟨wl,e1,e3 b hb⟩
   obtain⟨lb,Z⟩:=am (ab b hb);rw[Z]at h1;rw[Hl H.fZ H.hx h1 (al b hb).1 ((al b hb).2 lb h1),h1,Z]
  rw[<- zM u ap,ao];rfl
 ·rw[nN (by omega),nN (by omega),v];refine KA fun t hd=>?_;have h1:E m t=E (i+1) t:=r6 H.hB t (i+1) m (by omega) (Nat.le_refl _) fun k ok hk _ z av=>hok.dst i o k ok t ho z (by omega) av hd;have h2:E (i+1) t=y:=by rw[v,hd];exact iq ..
  rw[<- h2,<- h1];exact Da (V t (by unfold p9;rw[List.mem_append,List.mem_append,Option.mem_toList];exact .inr (.inl hd)))
def Qv{rd:Option Nat}{dn:Nat}(hS:ee g.P γ C)(hok:ql ops effs)(ad:iA n ops.toList=true)(H:jU g C ops effs E F m om x ks){Q:Exit->Act->World->Prop}
  (hK:∀L a w,Marks κ w a.defers->a.tmps.size=n->ar γ κ (F ops.size) L w->(∀t,SR (MA κ.M (F ops.size) L) L w (E ops.size t) (a.tmps.getD t undef))->Q .normal a w):
  ∀(u:Nat) (L:Ls) (listed:Array Bool) (a:Act) (w:World),fC listed ops.size<=u->listed.getD m true=true->db γ κ ops effs n (EK E ks m) F (m+1) L listed a w->wpAnyIn (Fw rd) dn g.P .any ops Q u listed a w:=by
 have ab:=(Array.getElem?_eq_some_iff.1 H.kD).1
 have fin:∀(L:Ls) (listed:Array Bool) (a:Act) (w:World),(∀k,k <ops.size->listed.getD k true=true)->db γ κ ops effs n (EK E ks m) F (m+1) L listed a w->Q .normal a w:=fun L listed a w z h=>by
  have hF:=H.F2 ops.size ab (Nat.le_refl _);refine hK L a w h.hd h.hn (by rw[hF];exact h.bo) fun t=>?_;rw[hF,<- jT (E:=E) (ks:=ks) ab]
  exact h.F3 hok.toDrawB H.As (Nat.le_refl _) (fun k ok hk _ _=>(Array.getElem?_eq_some_iff.1 hk).1) (fun k ok hk _ I=>by
   have:=z k (Array.getElem?_eq_some_iff.1 hk).1;rw[I]at this;cases this)
 intro u
 induction u with
 |zero=>
  intro L listed a w hu V h;have z:=t_ (listed:=listed) ops.size (by omega);refine⟨?_,fin L listed a w z h⟩
  cases hr:Region.ready .any ops listed with
  |nil=>rfl
  |cons i l=>
   have hm:i∈Region.ready .any ops listed:=by rw[hr];simp
   obtain⟨I,o,ho,_⟩:=mem_ready.1 hm;have:=z i (Array.getElem?_eq_some_iff.1 ho).1;rw[I]at this;cases this
 |succ u ih=>
  intro L listed a w hu V h;refine⟨fun hr=>fin L listed a w (uz hok.toDrawB h.hs hr) h,fun i hi=>?_⟩;obtain⟨I,o,ho,J⟩:=mem_ready.1 hi;have D:=(Array.getElem?_eq_some_iff.1 ho).1
  have au:fC (listed.setIfInBounds i true) ops.size<=u:=by
   have:=rV I ops.size;rw[if_pos D]at this;omega
  have ao:i≠m:=fun e=>by subst e;rw[V]at I;cases I
  have ax:i∉effs:=fun he=>by
   have:=H.last i he D;have:=h.low i he (by omega);rw[I]at this;cases this
  have al:∀L' a' w',db γ κ ops effs n (EK E ks m) F (m+1) L' (listed.setIfInBounds i true) a' w'->wpAnyIn (Fw rd) dn g.P .any ops Q u (listed.setIfInBounds i true) a' w':=fun L' a' w' h'=>ih L' _ a' w' au (by rw[getD_set_ne true ao];exact V) h';have ag:=wq (listed:=listed) (i:=i) (effs:=effs) (q:=m+1) (by rw[h.hs];exact D) fun e he Z _=>h.low e he Z
  have U:∀e∈effs,m+1<=e->e <ops.size->(listed.setIfInBounds i true).getD e true=false:=fun e he h1 h2=>by
   have:=H.last e he h2;omega
  rcases Nat.lt_or_ge i m with Z|av
  ·have hb:((Region.before ops).getD m 0).testBit i=false:=by
    rw[<- Bool.not_eq_true];intro hb;have:=h.jn (mV hb) fun o' ap=>h.dc m o' ap V;rw[I]at this;cases this
   obtain⟨h1,h2,h3⟩:=H.late hok.toDrawB h Z ho I hb;refine h.op hS hok.toDrawB ad H.As ho I J h1 ab ag U ?_ al;have v:=(H.hB.2 i o Z ho).2
   cases hg:o.guard with
   |none=>
    rw[hg]at v;obtain⟨y,a1,a2⟩:=v;exact⟨y,h2 y a1,h3 y a2⟩
   |some gj=>
    obtain⟨j,an⟩:=gj;rw[hg]at v;rcases v with⟨hW,y,a1,a2⟩|⟨hW,_,a2⟩
    ·exact .inl ⟨hW,y,h2 y a1,h3 _ a2⟩
    ·exact .inr ⟨hW,rfl,h3 _ a2⟩
  ·have G:m <i:=by omega
   have f1:=H.F2 i G (by omega);have f2:=H.F2 (i+1) (by omega) D;refine h.op (Ei:=E i) hS hok.toDrawB ad H.As ho I J (fun t _=>by rw[jT G]) ab ag U ?_ al;have v:=(H.hA i o G ho).2;rw[f1,f2]at v
   cases hg:o.guard with
   |none=>
    rw[hg]at v;obtain⟨y,a1,a2⟩:=v;exact⟨y,a1,by rw[jT (by omega),jT G];exact a2⟩
   |some gj=>
    obtain⟨j,an⟩:=gj;rw[hg]at v;rcases v with⟨hW,y,a1,a2⟩|⟨hW,_,a2⟩
    ·exact .inl ⟨hW,y,a1,by rw[jT (by omega),jT G];exact a2⟩
    ·exact .inr ⟨hW,rfl,by rw[jT (by omega),jT G];exact a2⟩
def Qu{rd:Option Nat}{dn:Nat}(hS:ee g.P γ C)(hok:ql ops effs)(ag:iA n ops.toList=true)(H:jU g C ops effs E F m om x ks){Q:Exit->Act->World->Prop}
  (hK:∀L a w,Marks κ w a.defers->a.tmps.size=n->ar γ κ (F ops.size) L w->(∀t,SR (MA κ.M (F ops.size) L) L w (E ops.size t) (a.tmps.getD t undef))->Q .normal a w):
  ∀(I p:Nat) (L:Ls) (listed:Array Bool) (a:Act) (w:World),fC listed ops.size<=I->listed.getD m true=false->db γ κ ops effs n (fun i=>E (min i m)) F p L listed a w->wpAnyIn (Fw rd) dn g.P .any ops Q I listed a w:=by
 have aF:=(Array.getElem?_eq_some_iff.1 H.kD).1;intro I
 induction I with
 |zero=>
  intro p L listed a w hu ad h;have aM:=t_ (listed:=listed) ops.size (by omega);rw[aM m aF]at ad;cases ad
 |succ I ih=>
  intro p L listed a w hu ad h;refine⟨fun hr=>?_,fun i hi=>?_⟩
  ·rw[uz hok.toDrawB h.hs hr m aF]at ad;cases ad
  obtain⟨hl,o,ho,J⟩:=mem_ready.1 hi;have u:=(Array.getElem?_eq_some_iff.1 ho).1
  have a6:fC (listed.setIfInBounds i true) ops.size<=I:=by
   have:=rV hl ops.size;rw[if_pos u]at this;omega
  have D:∀k,gG ops i k->listed.getD k true=true:=fun k ha=>h.jn ha fun o' ao=>by rw[ho]at ao;cases ao;exact J
  have bk:p<=m:=by
   rcases Nat.lt_or_ge m p with h1|h1
   ·have:=h.low m H.me h1;rw[ad]at this;cases this
   ·exact h1
  have al:=h.looks hok.toDrawB H.Ar ho hl J
  have ax:i∈effs->i<=m->F i=F p:=fun V Z=>by
   have bj:p<=i:=by
    rcases Nat.lt_or_ge i p with h1|h1
    ·have:=h.low i V h1;rw[hl]at this;cases this
    ·exact h1
   refine r7 H.hB p i bj Z fun q h1 h2 h3=>?_;have:=D q (hok.eff i V q h3 u h2);rw[h.pu q h3 h1 (by omega)]at this;cases this
  rcases Nat.lt_trichotomy i m with Z|Z|Z
  ·-- ahead of it in the text
   have av:=ya (a:=a) fun t ht=>al t (.inl ht);have z:min i m=i:=Nat.min_eq_left (by omega);have G:min (i+1) m=i+1:=Nat.min_eq_left (by omega);have aT:∀q L' a' w',db γ κ ops effs n (fun i=>E (min i m)) F q L' (listed.setIfInBounds i true) a' w'->wpAnyIn (Fw rd) dn g.P .any ops Q I (listed.setIfInBounds i true) a' w':=fun q L' a' w' h'=>ih q L' _ a' w' a6 (by rw[getD_set_ne true (by omega)];exact ad) h';have U:=(H.hB.2 i o Z ho).2;by_cases V:i∈effs
   ·have hF:=ax V (by omega);refine h.op (Ei:=E i) (q:=i+1) hS hok.toDrawB ag H.Ar ho hl J (fun t _=>by rw[z]) (by omega) (wq (by rw[h.hs];exact u) fun e he au bi=>D e (hok.eff i V e he u (by omega))) (fun e he aR aB=>?_) ?_ (aT _)
    ·rw[getD_set_ne true (by omega),<- Bool.not_eq_true];intro bf;have:=h.jn (hok.eff e he i V aB (by omega)) fun o' ao=>h.dc e o' ao bf;rw[hl]at this;cases this
    ·rw[hF]at U
     cases hg:o.guard with
     |none=>
      rw[hg]at U;obtain⟨y,a1,a2⟩:=U;exact⟨y,a1,by rw[z,G];exact a2⟩
     |some gj=>
      obtain⟨j,bb⟩:=gj;rw[hg]at U;rcases U with⟨hW,y,a1,a2⟩|⟨hW,a1,a2⟩
      ·exact .inl ⟨hW,y,a1,by rw[z,G];exact a2⟩
      ·exact .inr ⟨hW,a1,by rw[z,G];exact a2⟩
   ·refine h.op (Ei:=E i) (q:=p) hS hok.toDrawB ag H.Ar ho hl J (fun t _=>by rw[z]) h.hp (wq (by rw[h.hs];exact u) fun e he au _=>h.low e he au) (fun e he aR aB=>?_) ?_ (aT _)
    ·rw[getD_set_ne true (fun e'=>V (by rw[e'];exact he))];exact h.pu e he aR aB
    ·have aY:=fun y=>DM (x:=y) H.hB h bk Z ho hl V D (by rw[z]at av;exact av)
     cases hg:o.guard with
     |none=>
      rw[hg]at U;obtain⟨y,a1,a2⟩:=U;exact⟨y,aY y a1,by rw[z,G];exact a2⟩
     |some gj=>
      obtain⟨j,bb⟩:=gj;rw[hg]at U;rcases U with⟨hW,y,a1,a2⟩|⟨hW,a1,a2⟩
      ·exact .inl ⟨hW,y,aY y a1,by rw[z,G];exact a2⟩
      ·exact .inr ⟨hW,rfl,by rw[z,G];exact a2⟩
  ·-- the append itself
   subst Z
   have eo:o=om:=by
    have h1:=H.kD;rw[ho]at h1;exact Option.some.inj h1
   subst eo;have hF:=ax H.me (Nat.le_refl _)
   have ap:∀t,.tmp t∈o.op.operands->SR (MA κ.M (F p) L) L w (E i t) (a.tmps.getD t undef):=fun t ht=>by
    have:=al t (.inl ht);rwa[Nat.min_self]at this
   have av:=ya ap;have aG:=yf (o:=o) hS H.hx;rw[hF]at aG;unfold wpOpIn;simp only[ho];rw[if_pos (by simp[Region.wanted,H.hg])];refine(aG κ L a w h.bo av).wpIn fun v w' ⟨L',hT,bd,hv⟩=>?_;have aA:∀d,o.dst=some d->d <n:=fun d hd=>jv ag (Array.mem_toList_iff.2 (Array.mem_of_getElem? ho)) hd;refine Qv hS hok ag H hK I L' _ _ _ a6 ?_ ⟨?_,?_,?_,aF,?_,?_,bd,fun k ok t hk hd an=>?_,fun t ht=>?_,fun k ok hk an e he aN=>?_⟩
   ·rw[Array.getD_eq_getD_getElem?,Array.getElem?_setIfInBounds_self_of_lt (by rw[h.hs];exact u)];rfl
   ·rw[put_defers];exact h.hd.tr h.bo hT
   ·rw[bR,h.hn]
   ·rw[Array.size_setIfInBounds];exact h.hs
   ·exact wq (by rw[h.hs];exact u) fun e he au bi=>D e (hok.eff i H.me e he u (by omega))
   ·intro e he h1 h2;have:=H.last e he h2;omega
   ·by_cases ab:k=i
    ·subst ab;rw[ho]at hk;cases hk;rw[jT (by omega),H.hE,hd,fx (by rw[h.hn];exact aA t hd)];show SR _ _ _ (cV _ t x t) v
     rw[iq];exact hv
    ·rw[cg (hok.dst i o k ok t ho hk ab hd)];rw[getD_set_ne true (Ne.symm ab)]at an;have be:=(Array.getElem?_eq_some_iff.1 hk).1
     have bl:k <i:=by
      rcases Nat.lt_or_ge k i with h1|h1
      ·exact h1
      ·have:=h.jn (mV (H.behind k (by omega) be)) fun o' ao=>h.dc k o' ao an;rw[hl]at this;cases this
     have h1:=h.done k ok t hk hd an;rw[Nat.min_eq_left (show k+1<=i by omega)]at h1;rw[nN (by omega)];exact hT.env h1
   ·have aX:o.dst≠some t:=fun hd=>by
     have au:i <listed.size:=by rw[h.hs];exact u
     have:=ht i o ho hd;rw[Array.getD_eq_getD_getElem?,Array.getElem?_setIfInBounds_self_of_lt au]at this;cases this
    rw[cg aX,nN (Nat.zero_le _)]
    have h1:=h.rest t fun k ok hk hd=>by
     have ab:k≠i:=fun e=>by subst e;rw[ho]at hk;cases hk;exact aX hd
     have:=ht k ok hk hd;rw[getD_set_ne true (Ne.symm ab)]at this;exact this
    rw[Nat.min_eq_left (Nat.zero_le _)]at h1;exact hT.env h1
   ·by_cases ab:k=i
    ·subst ab;rw[ho]at hk;cases hk;exact getD_set_true (J e he aN)
    ·rw[getD_set_ne true (Ne.symm ab)]at an;exact getD_set_true (h.dc k ok hk an e he aN)
  ·-- behind it in the text: it waits for it
   have:=D m (mV (H.behind i Z u));rw[ad]at this;cases this
def Nk{rd:Option Nat}{dn:Nat}(hS:ee g.P γ C)(hok:ql ops effs)(z:iA n ops.toList=true){env env':Env}{fr fr':Fr}(he:qM g C m effs ops env fr=some (env',fr')){Q:Exit->Act->World->Prop}
  (hK:∀L a w,Marks κ w a.defers->a.tmps.size=n->ar γ κ fr' L w->(∀t,SR (MA κ.M fr' L) L w (env' t) (a.tmps.getD t undef))->Q .normal a w)(hd:Marks κ w a.defers)(hn:a.tmps.size=n)(J:ar γ κ fr L w)(U:∀t,SR (MA κ.M fr L) L w (env t) (a.tmps.getD t undef)):wpAnyIn (Fw rd) dn g.P .any ops Q ops.size (Array.replicate ops.size false) a w:=by
 unfold qM at he;split at he
 ·cases he
 rename_i e1 r1 G;split at he
 ·cases he
 rename_i o l u;split at he
 ·cases he
 rename_i hg;split at he
 ·cases he
 rename_i x r2 ks hx;split at he
 ·rename_i D
  have ab:m <ops.size:=by
   rcases Nat.lt_or_ge m ops.size with h|h
   ·exact h
   ·rw[List.drop_eq_nil_of_le (by simpa using h)]at u;cases u
  have kD:ops[m]?=some o:=by
   have:=congrArg (·[0]?) u;simpa using this
  have hl:∀i:Nat,l[i]?=ops[m+1+i]?:=fun i=>by
   have h1:=congrArg (·[i+1]?) u;simp only[List.getElem?_drop,List.getElem?_cons_succ,Array.getElem?_toList]at h1;rw[<- h1,show m+1+i=m+(i+1) by omega]
  have V:l.length=ops.size - (m+1):=by
   have:=congrArg List.length u;simp at this;omega
  obtain⟨E1,F1,a1,a2,a3,a4,a5⟩:=tB (ops.toList.take m) 0 env fr G;obtain⟨E2,F2,b1,b2,b3,b4,b5⟩:=tB l (m+1) _ _ he;have Z:(ops.toList.take m).length=m:=by simp;omega
  rw[Z]at a4 a5;rw[V]at b4 b5;obtain⟨k1,k2,k3,k4,k5⟩:=Kz D;have I:∀{α:Type} (f h:Nat->α) (i:Nat),i<=m->(if i<=m then f i else h (i - (m+1)))=f i:=fun f h i y=>if_pos y;have eR:∀{α:Type} (f h:Nat->α) (i:Nat),m <i->(if i<=m then f i else h (i - (m+1)))=h (i - (m+1)):=fun f h i y=>if_neg (by omega)
  have H:jU g C ops effs (fun i=>if i<=m then E1 i else E2 (i - (m+1))) (fun i=>if i<=m then F1 i else F2 (i - (m+1))) m o x ks:=by
   refine⟨⟨by omega,fun i oi y v=>?_⟩,fun i oi y v=>?_,kD,hg,?_,?_,k1,k2,k3,k4,?_⟩
   ·simp only[I _ _ i (by omega),I _ _ (i+1) (by omega)];have:=a3 i oi (by rw[List.getElem?_take,if_pos y,Array.getElem?_toList];exact v);rwa[Nat.zero_add]at this
   ·simp only[eR _ _ i y,eR _ _ (i+1) (by omega)];have:=b3 (i - (m+1)) oi (by rw[hl,show m+1+(i - (m+1))=i by omega];exact v);rwa[show m+1+(i - (m+1))=i by omega,show i - (m+1)+1=i+1 - (m+1) by omega]at this
   ·simp only[if_pos (Nat.le_refl m),if_neg (show¬m+1<=m by omega),Nat.sub_self,a4,a5,b2];exact hx
   ·simp only[if_pos (Nat.le_refl m),if_neg (show¬m+1<=m by omega),Nat.sub_self,a4,b1]
   ·simp only[if_pos (Nat.le_refl m),a4,a5];exact k5
  refine Qu (n:=n) (κ:=κ) hS hok z H (fun L a w hd hn J U=>?_) _ 0 L _ a w ?_ ?_ (db.start hd hn ?_ fun t=>?_)
  ·simp only[if_neg (show¬ops.size<=m by omega),b4,b5]at J U;exact hK L a w hd hn J U
  ·unfold fC;exact Nat.le_trans (List.countP_le_length) (by simp)
  ·rw[Array.getD_eq_getD_getElem?,Array.getElem?_replicate,if_pos ab];rfl
  ·simp only[I _ _ 0 (Nat.zero_le _),a2];exact J
  ·simp only[Nat.min_eq_left (Nat.zero_le m),I _ _ 0 (Nat.zero_le _),a1,a2];exact U t
 ·cases he
end
section
variable {γ:Glob} {κ:Ctx} {fr:Fr} {L:Ls} {w:World}
def E0(G:ar γ κ fr L w){i:Nat}{v:Value}{D:Lb}(I:L i=some v)(hb:fr[i]?=some D)(z:D.ro=true):∀b,Bk v b->MA κ.M fr L b:=fun b y=>
 ⟨(G.new i v b D I y hb).2.1,fun⟨j,u,J,h1,h2,h3,h4⟩=>by
  have:=G.dis j i u v b h1 I h2 y;subst this;rw[hb]at h3;cases h3;rw[z]at h4;cases h4⟩
mutual
theorem AD(z:ar γ κ fr L w):∀(s:SV) (v:Value),SR (MA κ.M fr L) L w s v->SR (MA κ.M fr L) L w (eT fr s) v
 | .ls i,v,h=>by
  rw[eT];split
  ·rename_i ab sz U Z;obtain⟨V,_⟩:=kH h;exact .t _ _ (wa z (fun _ h=>h) Z V fun b J=>E0 z V Z rfl b (.one J))
  ·exact h
 | .agg y,v,h=>by
  rw[eT]
  cases h with
  |agg _ us hl hr=>
   obtain⟨D,G⟩:=w7 z y us hr;split
   ·rename_i xs hx;obtain⟨h1,h2⟩:=rD (A:=MA κ.M fr L) (L:=L) (w:=w) hx;refine .t _ _ (.agg _ us (by rw[hl,<- D,h1]) fun j x u I hu=>?_);obtain⟨s,hs⟩:=am (xs:=lY fr y) (k:=j) (by rw[h1];exact aC I);exact h2 j s x u hs I (G j s u hs hu)
   ·exact .agg _ us (by rw[hl,D]) G
 | .aN y,v,h=>by
  rw[eT]
  cases h with
  |aN _ us hl hr=>
   obtain⟨D,G⟩:=w7 z y us hr;exact .aN _ us (by rw[hl,D]) G
 | .fn f nf y,v,h=>by
  rw[eT]
  cases h with
  |fn _ _ fs us hl hr=>
   obtain⟨D,G⟩:=w7 z y (fs++us) hr;exact CK (.fn _ _ fs us (by rw[hl,D]) G)
 | .aT s,v,h=>by
  rw[eT]
  cases h with
  |aT _ _ h=>exact AD z s v h
 | .t x,v,h=>by rw[eT]<;>first|exact h|(intros;contradiction)
 | .nil,v,h=>by rw[eT]<;>first|exact h|(intros;contradiction)
 | .tc U,v,h=>by rw[eT]<;>first|exact h|(intros;contradiction)
 | .nn U,v,h=>by rw[eT]<;>first|exact h|(intros;contradiction)
 | .lp i j,v,h=>by rw[eT]<;>first|exact h|(intros;contradiction)
 | .lv i sz a n,v,h=>by rw[eT]<;>first|exact h|(intros;contradiction)
 | .le i sz k j,v,h=>by rw[eT]<;>first|exact h|(intros;contradiction)
 | .lo i p,v,h=>by rw[eT]<;>first|exact h|(intros;contradiction)
 | .lr i p k,v,h=>by rw[eT]<;>first|exact h|(intros;contradiction)
 | .lm i,v,h=>by rw[eT]<;>first|exact h|(intros;contradiction)
 | .no,v,h=>by rw[eT]<;>first|exact h|(intros;contradiction)
 | .dead,v,h=>by rw[eT]<;>first|exact h|(intros;contradiction)
theorem w7(z:ar γ κ fr L w):∀(cs:List SV) (us:Array Value),(∀(j:Nat) (x:SV) (u:Value),cs[j]?=some x->us[j]?=some u->SR (MA κ.M fr L) L w x u)->(lY fr cs).length=cs.length/\∀(j:Nat) (x:SV) (u:Value),(lY fr cs)[j]?=some x->us[j]?=some u->SR (MA κ.M fr L) L w x u
 |[],us,_=>⟨by rw[lY],fun j x u y _=>by rw[lY]at y;simp at y⟩
 |c::cs,us,D=>by
  obtain⟨G,I⟩:=w7 z cs (us.extract 1 us.size) fun j x u y v=>by
   rw[Array.getElem?_extract]at v;split at v
   ·rw[Nat.add_comm]at v;exact D (j+1) x u (by simpa using y) v
   ·cases v
  rw[lY];refine⟨by simp[G],fun j x u y v=>?_⟩
  cases j with
  |zero=>cases y;exact AD z c u (D 0 c u rfl v)
  |succ j=>
   refine I j x u (by simpa using y) ?_;have J:=(Array.getElem?_eq_some_iff.1 v).1;rw[Array.getElem?_extract,if_pos (by omega),Nat.add_comm];exact v
end
theorem EZ:∀{l:List Nat},v8 fr l=true->∀i∈l,∃b,fr[i]?=some b/\b.ro=true
 |[],_,i,u=>by cases u
 |k::r,h,i,u=>by
  unfold v8 at h;split at h
  ·rename_i b v;rw[Bool.and_eq_true]at h;rcases List.mem_cons.1 u with rfl|u
   ·exact⟨b,v,h.1⟩
   ·exact EZ h.2 i u
  ·cases h
def Ng(z:ar γ κ fr L w)(m:Nat){c:SV}{v:Value}(h:SR (MA κ.M fr L) L w c v):SR (MA κ.M fr L) L w (zN m fr c) v:=by
 unfold zN;split
 ·exact h
 ·split
  ·rename_i x J y;refine .t _ _ ((nH z (A:=MA κ.M fr L) (fun _ h=>h) deep).1 c x v J (fun i G u b I D=>?_) h);obtain⟨U,h1,h2⟩:=EZ y i G;exact E0 z I h1 h2 b D
  ·exact h
def zO(m:Nat)(b:Lb):(jb m fr b).ro=b.ro:=by cases b <;>rfl
def Nf(m:Nat)(b:Lb):(jb m fr b).tch=b.tch:=by cases b <;>rfl
def ar.Nh(z:ar γ κ fr L w)(m:Nat):ar γ κ (fr.map (jb m fr)) L w/\∀b,MA κ.M fr L b↔MA κ.M (fr.map (jb m fr)) L b:=by
 have G:∀(i:Nat) (y:Lb),(fr.map (jb m fr))[i]?=some y->∃D,fr[i]?=some D/\y=jb m fr D:=fun i y h=>by
  rw[List.getElem?_map]at h
  cases hf:fr[i]? with
  |none=>rw[hf]at h;cases h
  |some D=>rw[hf]at h;cases h;exact⟨D,rfl,rfl⟩
 have ad:∀b,Own fr L b↔Own (fr.map (jb m fr)) L b:=fun b=>by
  constructor
  ·rintro⟨i,v,D,h1,h2,h3,h4⟩;exact⟨i,v,jb m fr D,h1,h2,by rw[List.getElem?_map,h3];rfl,by rw[zO];exact h4⟩
  ·rintro⟨i,v,y,h1,h2,h3,h4⟩;obtain⟨D,I,rfl⟩:=G i y h3;rw[zO]at h4;exact⟨i,v,D,h1,h2,I,h4⟩
 have Z:∀b,MA κ.M fr L b↔MA κ.M (fr.map (jb m fr)) L b:=fun b=>by unfold MA;rw[ad b]
 have ag:∀{x:SV} {v:Value},SR (MA κ.M fr L) L w x v->SR (MA κ.M (fr.map (jb m fr)) L) L w x v:=fun h=>SR.on (Nat.le_refl _) (fun b _ U=>⟨(Z b).1 U,rfl⟩) (fun _ _ h=>h) h;have al:∀{x:AV} {v:Value},VR (MA κ.M fr L) w x v->VR (MA κ.M (fr.map (jb m fr)) L) w x v:=fun h=>VR.on (Nat.le_refl _) (fun b _ U=>⟨(Z b).1 U,rfl⟩) h;refine⟨⟨z.glob,z.gn,z.gx,z.fresh,z.os,z.tape,z.output,z.size,z.kept,fun i v h=>by rw[List.length_map];exact z.lim i v h,fun i v b y h1 h2 h3=>?_,z.dis,fun j v h=>?_,fun i y h=>?_⟩,Z⟩
 ·obtain⟨D,I,rfl⟩:=G i y h3;rw[zO];exact z.new i v b D h1 h2 I
 ·obtain⟨D,h1,h2⟩:=z.hand j v h;exact⟨jb m fr D,by rw[List.getElem?_map,h1];rfl,fun ht=>h2 (by rw[Nf]at ht;exact ht)⟩
 ·obtain⟨D,I,rfl⟩:=G i y h;have U:=z.blk i D I
  cases D with
  |box ro T cs=>
   obtain⟨g,us,h1,h2,h3,h4⟩:=U;refine⟨g,us,h1,h2,by rw[List.length_map];exact h3,fun j x u J hu=>?_⟩;rw[List.getElem?_map]at J
   cases hc:cs[j]? with
   |none=>rw[hc]at J;cases J
   |some c=>rw[hc]at J;cases J;exact ag (Ng z m (h4 j c u hc hu))
  |row ro an sz es=>
   obtain⟨T,v,us,h1,h2,h3,h4,I⟩:=U
   exact⟨T,v,us,h1,h2,h3,h4,fun k j cs x hk hj=>by
    obtain⟨u,e1,e2⟩:=I k j cs x hk hj;exact⟨u,e1,al e2⟩⟩
  |map ro ks vs=>
   obtain⟨r,ab,V,h1,h2,h3,h4,I,h6,h7⟩:=U;exact⟨r,ab,V,h1,h2,h3,h4,fun j x u J hu=>al (I j x u J hu),fun j x u J hu=>ag (h6 j x u J hu),h7⟩
  |own ro x=>exact U
theorem sC:∀(l u:List Nat),∃r,cB u l=u++r
 |[],u=>⟨[],by unfold cB;simp⟩
 |i::l,u=>by
  unfold cB;split
  ·exact sC l u
  ·obtain⟨r,h⟩:=sC l (u++[i]);exact⟨i::r,by rw[h];simp⟩
theorem xK:∀(l u:List Nat) (i:Nat),i∈u\/i∈l->i∈cB u l
 |[],u,i,h=>by unfold cB;simpa using h
 |k::l,u,i,h=>by
  unfold cB;split
  ·rename_i v;refine xK l u i ?_;rcases h with h|h
   ·exact .inl h
   ·rcases List.mem_cons.1 h with rfl|h
    ·exact .inl (qV.1 v)
    ·exact .inr h
  ·refine xK l _ i ?_;rcases h with h|h
   ·exact .inl (by simp[h])
   ·rcases List.mem_cons.1 h with rfl|h
    ·exact .inl (by simp)
    ·exact .inr h
theorem xb:∀(m:Nat) (bs:Fr) (j:Nat),(gP m bs)[j]?=(bs[j]?).map fun b=>if j <m then b else cU b
 |_,[],j=>by simp[gP]
 |0,b::bs,0=>by simp[gP]
 |0,b::bs,j+1=>by
  have:=xb 0 bs j;simp[gP,this]
 |m+1,b::bs,0=>by simp[gP]
 |m+1,b::bs,j+1=>by
  have:=xb m bs j;simp[gP,this]
theorem CR{f:Lb->Lb}:∀{l:List Nat} {bs:Fr},dX fr l=some bs->dX (fr.map f) l=some (bs.map f)
 |[],bs,h=>by unfold dX at h;cases h;rfl
 |k::r,bs,h=>by
  unfold dX at h;split at h
  ·cases h
  ·rename_i b u;split at h
   ·cases h
   ·rename_i l v;cases h;unfold dX;rw[List.getElem?_map,u];simp only[Option.map_some,CR v,List.map_cons]
theorem BO(fr:Fr):∀(n:Nat) (l:List Nat),∃r,close fr n l=l++r
 |0,l=>⟨[],by simp[close]⟩
 |n+1,l=>by
  unfold close;obtain⟨r,h1⟩:=sC (vW fr l) l;obtain⟨q,h2⟩:=BO fr n (cB l (vW fr l));exact⟨r++q,by rw[h2,h1,List.append_assoc]⟩
def Et{F:Fr}(U:ar γ κ F L w){m:Nat}(hm:∀j v,κ.L j=some v->j <m){r1:SV}{v:Value}{u:List Nat}{B:Fr}(an:u.Nodup)(al:∀j,j <m->u[j]?=some j)(ab:dX F u=some B)(ao:SR (MA κ.M F L) L w r1 v):
  ∃L',ar γ κ (gP m (B.map (Lb.sub (bc u)))) L' w/\SR (MA κ.M (gP m (B.map (Lb.sub (bc u)))) L') L' w (r1.sub (bc u)) v:=by
 obtain⟨Z,V⟩:=vc ab
 have ad:∀(j:Nat) (z:Lb),(gP m (B.map (Lb.sub (bc u))))[j]?=some z->∃(i:Nat) (D:Lb),u[j]?=some i/\F[i]?=some D/\z=if j <m then D.sub (bc u)else cU (D.sub (bc u)):=fun j z y=>by
  rw[xb,List.getElem?_map]at y
  cases I:B[j]? with
  |none=>rw[I]at y;cases y
  |some D=>
   rw[I]at y;cases y;obtain⟨i,hi⟩:=am (xs:=u) (k:=j) (by rw[<- Z];exact aC I);obtain⟨b,h1,h2⟩:=V j i hi;rw[I]at h2;cases h2;exact⟨i,D,hi,h1,rfl⟩
 have G:(gP m (B.map (Lb.sub (bc u)))).length=u.length:=by
  rw[<- Z]
  have:∀(m:Nat) (bs:Fr),(gP m bs).length=bs.length:=fun m bs=>by
   induction bs generalizing m with
   |nil=>cases m <;>rfl
   |cons b bs ih=>cases m <;>simp[gP,ih]
  rw[this,List.length_map]
 obtain⟨h1,h2,h3⟩:=U.tI (gP m (B.map (Lb.sub (bc u)))) (fun j=>u.getD j 0) (bc u) (fun j k y hk e=>by
   rw[G]at y hk;have J:u[j]?=some (u.getD j 0):=by rw[List.getD_eq_getElem?_getD,List.getElem?_eq_getElem y];rfl
   have ek:u[k]?=some (u.getD k 0):=by rw[List.getD_eq_getElem?_getD,List.getElem?_eq_getElem hk];rfl
   rw[e]at J;exact vQ an J ek) (fun i j v hi hv=>by
   have:=vg hi;exact⟨by rw[G];exact aC this,by rw[List.getD_eq_getElem?_getD,this];rfl⟩) (fun j z y=>by
   obtain⟨i,D,e1,e2,rfl⟩:=ad j z y;refine⟨D,by rw[List.getD_eq_getElem?_getD,e1];exact e2,?_⟩;split
   ·exact nR _ _
   ·exact xz (nR _ _)) (fun j v y=>by
   have ag:=hm j v y;have J:u[j]?=some j:=al j ag;obtain⟨D,e1,_⟩:=U.hand j v y;obtain⟨ap,e2,e3⟩:=V j j J;rw[e1]at e2;cases e2;refine⟨D,D.sub (bc u),e1,by rw[xb,List.getElem?_map,e3];simp[ag],by rw[List.getD_eq_getElem?_getD,J];rfl,fun ht=>by rw[Lb.wE]at ht;exact ht⟩)
 exact⟨_,h1,SR.sub _ (Nat.le_refl _) (fun b _ I=>⟨h2 b I,rfl⟩) h3 ao⟩
def yk(hC:ar γ κ fr L w){m:Nat}(hm:∀j v,κ.L j=some v->j <m){r0 r:SV}{fr':Fr}{v:Value}(h:fin m r0 fr=some (r,fr'))(hv:SR (MA κ.M fr L) L w r0 v):∃L',ar γ κ fr' L' w/\SR (MA κ.M fr' L') L' w r v:=by
 unfold fin at h;simp only at h;have z:=AD hC _ v (qh hv);generalize eT fr (un r0)=r1 at h z;split at h
 ·rename_i u;cases h
  have av:m=0:=by
   obtain⟨q,Z⟩:=sC r.refs (List.range m);rw[Z,List.append_eq_nil_iff,List.range_eq_nil]at u;exact u.1
  have G:r.refs=[]:=by
   cases hx:r.refs with
   |nil=>rfl
   |cons i l=>
    have:=xK r.refs (List.range m) i (.inr (by rw[hx];simp));rw[u]at this;cases this
  obtain⟨h1,h2,h3⟩:=hC.tI [] (fun j=>j) (fun _=>none) (fun j k I=>by simp at I) (fun i j v h=>by cases h) (fun j lb h=>by simp at h) (fun j v I=>by have:=hm j v I;omega);exact⟨_,h1,SR.D6 (fun b _ hb=>⟨h2 b hb,rfl⟩) (Nat.le_refl _) z G⟩
 ·split at h
  ·cases h
  ·rename_i bs ao;have V:(cB (List.range m) r1.refs).Nodup:=sB _ _ List.nodup_range
   have y:∀j,j <m->(cB (List.range m) r1.refs)[j]?=some j:=fun j U=>by
    obtain⟨q,Z⟩:=sC r1.refs (List.range m);rw[Z,List.getElem?_append_left (by simpa using U),List.getElem?_range U]
   generalize cB (List.range m) r1.refs=D at*
   split at h
   ·split at h
    ·cases h
    ·rename_i ap an;split at h
     ·cases h
     ·cases h;refine Et hC hm (xG fr 4 D V) (fun j I=>?_) an z;obtain⟨q,Z⟩:=BO fr 4 D;rw[Z,List.getElem?_append_left (aC (y j I))];exact y j I
   ·cases h;obtain⟨ab,au,ag⟩:=hC.nq (inner m fr D);obtain⟨ad,al⟩:=ab.Nh m;have J:=CR (f:=jb m (freeze fr (inner m fr D))) ao;exact Et ad hm V y J (SR.on (Nat.le_refl _) (fun b _ hb=>⟨(al b).1 (ag b hb),rfl⟩) (fun _ _ h=>h) z)
end
def dH:Code->Bool
 | .seq a b=>dH a&&dH b
 | .cond _ a b=>dH a&&dH b
 | .block _ b=>dH b
 | .loop b=>dH b
 | .rangeFunc ..=>false
 |_=>true
def uq(γ:Glob)(P:Program)(G:Nat)(I:Array Value)(T:AV->Value->Prop)(yss:List (List AV))(wh:Bool):Prop:=
 gR P G/\∀(l:Nat) (J:List (List AV)->(Nat->Prop)->World->Prop) (z:World->Prop) (A:Nat->Prop) (W:World),
  (∀r A X Y,J r A X->Below X.heap.size X Y->J r A Y)->(∀X Y,z X->Below X.heap.size X Y->z Y)->
  (∀r A X,J r A X->ar γ ⟨A,fun _=>False,fun _=>False,X,fun _=>none⟩ [] (fun _=>none) X/\∀x v,T x v->VR A X x v)->
  (wh=false->∀A X,¬J [] A X)->
  (∀(y:List AV) (r:List (List AV)) (A:Nat->Prop) (D:Array Value) (X:World),J (y::r) A X->D.size=y.length->(∀(j:Nat) (x:AV) (u:Value),y[j]?=some x->D[j]?=some u->VR A X x u)->
   ∀m,YieldAt (Fw none) m P l D X fun e Y=>(e=.returned (.bool true)/\∃A',J r A' Y)\/(e=.returned (.bool false)/\z Y))->
  J yss A W->
  ∀m,CallsIn (Fw none) m P G (#[.func (.yield l) #[] #[]]++I) W fun e Y=>(∃v,e=.returned v)/\((wh=true/\∃A',J [] A' Y)\/z Y)
def ui(xs:List AV)(v:Array Value)(x:AV)(u:Value):Prop:=∃j:Nat,xs[j]?=some x/\v[j]?=some u
def kj(g:Cfg)(f n:Nat):Code->Bool
 | .region id ops u=>iA n ops.toList&&(match u with
  |true=>(match qH (g.eff f id)with
   |0=>xR ops (g.eff f id)
   |1=>uQ ops (g.eff f id)
   |4=>uP ops (sU (g.eff f id))
   |5=>uQ ops (sU (g.eff f id))
   |_=>true)
  |false=>true)
 | .seq a b=>kj g f n a&&kj g f n b
 | .cond _ a b=>kj g f n a&&kj g f n b
 | .block _ b=>kj g f n b
 | .loop b=>kj g f n b
 | .rangeFunc _ ps asg b=>kj g f n asg&&kj g f n b&&dH asg&&dH b&&ps.toList.all fun p=>Nat.blt p n
 |_=>true
def qk(g:Cfg)(f:Nat):Bool:=match g.P.funcs[f]? with
 |none=>false
 |some fn=>match fn.body with
  |none=>false
  |some c=>kj g f fn.ntmps c&&!(fn.name== "runtime.NumGoroutine")&&Nat.ble fn.results.size 4
structure Wf (g:Cfg) (γ:Glob):Prop where
 seq:∀(gf:Nat) (xs:List AV) (yss:List (List AV)) (wh:Bool),g.seq gf xs=some (yss,wh)->∀(lb:Array Value),lb.size=xs.length->uq γ g.P gf lb (ui xs lb) yss wh:=by intro _ _ _ _ h;cases h
 mixed:g.P.follows .mixedOrders=true
 sS:∀f,g.ok f=true->qk g f=true
 ext:∀(f:Nat) (xs:List AV) (r:SV) (fr':Fr),g.ext f xs=some (r,fr')->gR g.P f/\∀(κ:Ctx) (w:World) (us:Array Value),ar γ κ [] κ.L w->κ.W=w->us.size=xs.length->(∀(j:Nat) (x:AV) (u:Value),xs[j]?=some x->us[j]?=some u->VR (MA κ.M [] κ.L) w x u)->
  Calls g.P f us w fun e w'=>∃v L',e=.returned v/\ar γ κ fr' L' w'/\SR (MA κ.M fr' L') L' w' r v
 exh:ee g.P γ g.exh:=by intro _ _ _ _ _ h;cases h
def Out.Re:Out->Exit
 | .normal=>.normal
 | .exit id=>.exit id
 | .ret=>.ret
def At(γ:Glob)(κ:Ctx)(n:Nat)(env:Env)(fr:Fr)(a:Act)(w:World):Prop:=Marks κ w a.defers/\a.tmps.size=n/\∃L,ar γ κ fr L w/\∀t,SR (MA κ.M fr L) L w (env t) (a.tmps.getD t undef)
def l7(γ:Glob)(κ:Ctx)(n:Nat)(o:Out)(env:Env)(fr:Fr):Exit->Act->World->Prop:=fun e a w=>e=o.Re/\At γ κ n env fr a w
def r_(g:Cfg)(γ:Glob)(Lp:LoopF):Prop:=∀(f:Nat) (b:Code) (env:Env) (fr:Fr) (o:Out) (u:Env) (fr':Fr),Lp f b env fr=some (o,u,fr')->∀n,kj g f n b=true->∀(κ:Ctx) rd dn a w,((rd=none/\¬κ.H κ.W.heap.size)\/dH b=true)->At γ κ n env fr a w->(Code.loop b).wpIn (Fw rd) dn g.P (l7 γ κ n o u fr') a w
section
variable {g:Cfg} {γ:Glob} {κ:Ctx} {C:CallF} {Lp:LoopF} {n:Nat}
def Mq{fr:Fr}{L:Ls}{i:Nat}{D lb':Lb}(hi:fr[i]?=some D)(z:lb'.ro=D.ro)(b:Nat):Own (fr.set i lb') L b↔Own fr L b:=by
 have y:=aC hi;constructor
 ·rintro⟨j,v,x,h1,h2,h3,h4⟩;by_cases u:i=j
  ·subst u;rw[List.getElem?_set_self y]at h3;cases h3;exact⟨i,v,D,h1,h2,hi,z ▸ h4⟩
  ·rw[List.getElem?_set_ne u]at h3;exact⟨j,v,x,h1,h2,h3,h4⟩
 ·rintro⟨j,v,x,h1,h2,h3,h4⟩;by_cases u:i=j
  ·subst u;rw[hi]at h3;cases h3;exact⟨i,v,lb',h1,h2,List.getElem?_set_self y,z.trans h4⟩
  ·exact⟨j,v,x,h1,h2,by rw[List.getElem?_set_ne u];exact h3,h4⟩
def ar.Np{fr:Fr}{L:Ls}{w:World}(u:ar γ κ fr L w){i:Nat}{V lb':Lb}(hi:fr[i]?=some V)(I:lb'.ro=V.ro)(ht:lb'.tch=V.tch)(hb:jV (MA κ.M fr L) L w i lb'):ar γ κ (fr.set i lb') L w/\MA κ.M (fr.set i lb') L=MA κ.M fr L:=by
 have D:=aC hi
 have hM:MA κ.M (fr.set i lb') L=MA κ.M fr L:=by
  funext b;unfold MA;rw[propext (Mq hi I b)]
 have Z:∀{j:Nat} {x:Lb},(fr.set i lb')[j]?=some x->∃y:Lb,fr[j]?=some y/\x.ro=y.ro/\x.tch=y.tch:=fun{j x} h=>by
  by_cases G:i=j
  ·subst G;rw[List.getElem?_set_self D]at h;cases h;exact⟨V,hi,I,ht⟩
  ·rw[List.getElem?_set_ne G]at h;exact⟨x,h,rfl,rfl⟩
 refine⟨?_,hM⟩
 exact{
  glob:=u.glob
  gn:=u.gn
  gx:=u.gx
  fresh:=u.fresh
  os:=u.os
  tape:=u.tape
  output:=u.output
  size:=u.size
  kept:=u.kept
  lim:=fun j v G=>by rw[List.length_set];exact u.lim j v G
  new:=fun j v b x h1 h2 h3=>by
   obtain⟨y,J,hr,_⟩:=Z h3;obtain⟨q1,q2,q3,q4⟩:=u.new j v b y h1 h2 J;exact⟨q1,q2,q3,fun h=>q4 (hr ▸ h)⟩
  dis:=u.dis
  hand:=fun j v G=>by
   obtain⟨y,J,hl⟩:=u.hand j v G;by_cases z:i=j
   ·subst z;rw[hi]at J;cases J;exact⟨lb',List.getElem?_set_self D,fun h=>hl (ht ▸ h)⟩
   ·exact⟨y,by rw[List.getElem?_set_ne z];exact J,hl⟩
  blk:=fun j x U=>by
   rw[hM];by_cases z:i=j
   ·subst z;rw[List.getElem?_set_self D]at U;cases U;exact hb
   ·rw[List.getElem?_set_ne z]at U;exact u.blk j x U}
def D1{fr:Fr}{s:SV}{i:Nat}{T:TypeId}(h:vO fr s=some (i,T)):fr[i]?=some (.box false T [.nil]):=by
 unfold vO at h;split at h
 ·split at h
  ·rename_i u;cases h;exact u
  ·cases h
 ·cases h
theorem D2{fr:Fr}{i:Nat}{T:TypeId}:∀{l:List SV},vP fr l=some (i,T)->fr[i]?=some (.box false T [.nil])
 |[],h=>by cases h
 |s::r,h=>by
  unfold vP at h;split at h
  ·rename_i x u;cases h;exact D1 u
  ·exact D2 h
def L6{fr:Fr}{s:SV}{i:Nat}{T:TypeId}(h:zj fr s=some (i,T)):fr[i]?=some (.box false T [.nil]):=by
 unfold zj at h;split at h
 ·exact D2 h
 ·exact D1 h
theorem At.own{env:Env}{fr:Fr}{a:Act}{w:World}:∀(sl:List (Nat×Nat)) (env:Env) (fr:Fr),At γ κ n env fr a w->At γ κ n (gK sl env fr).1 (gK sl env fr).2 a w
 |[],env,fr,h=>h
 |(t,sz)::r,env,fr,h=>by
  have an:(∀(L:Ls),SR (MA κ.M fr L) L w (env t) (a.tmps.getD t undef)->∃q,a.tmps.getD t undef=.slice q 0 0)->At γ κ n (cV env t (.ls fr.length)) (fr++[.row false false sz []]) a w:=fun hq=>by
   obtain⟨h1,h2,L,y,I⟩:=h;obtain⟨q,hq⟩:=hq L (I t);obtain⟨v,hT⟩:=y.push (Below.refl _ _) (.row false false sz []) (.slice q 0 0) (fun b hb=>by cases q <;>cases hb) fun hT=>⟨0,_,[],cb,.inl ⟨rfl,rfl,q,rfl⟩,by rw[List.length_nil];omega,fun k cs V=>by simp at V,fun k j cs x V _=>by simp at V⟩;refine⟨h1,h2,_,v,fun u=>?_⟩;by_cases G:u=t
   ·subst G;rw[iq,hq];exact .ls _ _ cb rfl
   ·rw[qi G];exact hT.sr (I u)
  unfold gK;split
  ·split
   ·rename_i x hx;refine At.own (env:=env) (fr:=fr) r _ _ ?_;obtain⟨h1,h2,L,y,I⟩:=h;obtain⟨ap,aB,ax⟩:=y.nq (nD fr deep (un (env t)));refine⟨h1,h2,L,ap,fun u=>?_⟩;by_cases G:u=t
    ·subst G;rw[iq];exact .t _ _ ((nH y ax deep).1 _ x _ hx (oe y) (qh (I u)))
    ·rw[qi G];exact aB.sr (I u)
   ·exact At.own (env:=env) (fr:=fr) r _ _ h
  split
  ·rename_i he;exact At.own (env:=env) (fr:=fr) r _ _ (an fun L hs=>by rw[he]at hs;generalize a.tmps.getD t undef=z at hs;cases hs;exact⟨none,rfl⟩)
  ·rename_i he;exact At.own (env:=env) (fr:=fr) r _ _ (an fun L hs=>by rw[he]at hs;generalize a.tmps.getD t undef=z at hs;cases hs with|tc _ q _=>exact⟨q,rfl⟩)
  ·split
   ·rename_i i T aG;have J:=L6 aG;refine At.own (env:=env) (fr:=fr) r _ _ ?_;obtain⟨h1,h2,L,y,I⟩:=h;obtain⟨g,Z,hL,hg,aM,aN⟩:=y.blk i _ J;have aT:Z.size=1:=aM;have al:Z[0]?=some Z[0]:=Array.getElem?_eq_getElem (by omega);have h0:=aN 0 .nil Z[0] rfl al
    have hv:Z[0]=.slice none 0 0:=by
     generalize Z[0]=z at h0;cases h0;rfl
    obtain⟨v,hT⟩:=y.push (Below.refl _ _) (.row false false sz []) (.slice none 0 0) (fun b hb=>by cases hb) fun hT=>⟨0,_,[],cb,.inl ⟨rfl,rfl,none,rfl⟩,by rw[List.length_nil];omega,fun k cs V=>by simp at V,fun k j cs x V _=>by simp at V⟩;have ad:=aC J;have D:(fr++[Lb.row false false sz []])[i]?=some (.box false T [.nil]):=by rw[List.getElem?_append_left ad];exact J
    have av:=v.blk i _ D;obtain⟨g',ao,ab,U,ag,aR⟩:=av
    have aF:g'=g/\ao=Z:=by
     have e1:=hT.sr (SR.lp i 0 g hL)
     cases e1 with
     |lp _ _ _ hq=>
      rw[ab]at hq;cases hq;rw[hg]at U;cases U;exact⟨rfl,rfl⟩
    obtain⟨rfl,rfl⟩:=aF
    obtain⟨au,aA⟩:=v.Np D (lb':=.box false T [.ls fr.length]) rfl rfl ⟨g',ao,ab,U,ag,fun j x u hx G=>by
     match j with
     |0=>
      cases hx;rw[al]at G;cases G;rw[hv];exact .ls _ _ cb rfl
     |j+1=>simp at hx⟩
    have e:fr.set i (.box false T [.ls fr.length])++[Lb.row false false sz []]=(fr++[Lb.row false false sz []]).set i (.box false T [.ls fr.length]):=by
     rw[List.set_append_left _ _ ad]
    rw[e];refine⟨h1,h2,_,au,fun u=>?_⟩;rw[aA];exact hT.sr (I u)
   ·exact At.own (env:=env) (fr:=fr) r _ _ h
theorem oE{A:Nat->Prop}{L:Ls}{w:World}{tm:Nat->Value}:∀(l:List (Nat×SV)),(∀p∈l,SR A L w p.2 (tm p.1))->∀t,SR A L w (c9 l t) (tm t)
 |[],_,t=>.dead _
 |(k,v)::r,h,t=>by
  unfold c9;split
  ·rename_i y;obtain rfl:t=k:=by simpa using y
   exact h (t,v) (by simp)
  ·exact oE r (fun p u=>h p (by simp[u])) t
def GG(h:Nat)(fr:Fr):Go.Proofs.YtcgdbhlnkificaaGreatDoor.trim h (freeze fr ((List.range fr.length).filter (Nat.ble h)))=Go.Proofs.YtcgdbhlnkificaaGreatDoor.trim h fr:=by
 unfold Go.Proofs.YtcgdbhlnkificaaGreatDoor.trim;rw[qR];split
 ·rename_i u;rw[Nat.ble_eq]at u
  have:(List.range fr.length).filter (Nat.ble h)=[]:=by
   rw[List.filter_eq_nil_iff];intro i v;have:=List.mem_range.1 v;rw[Nat.ble_eq];omega
  rw[this];rfl
 ·congr 1;apply List.ext_getElem?;intro j;rw[List.getElem?_take,List.getElem?_take];split
  ·rename_i D;rw[sT]
   have:bI ((List.range fr.length).filter (Nat.ble h)) j=false:=by
    rw[fp];intro y;have:=(List.mem_filter.1 y).2;rw[Nat.ble_eq]at this;omega
   rw[this]
   cases fr[j]? with
   |none=>rfl
   |some z=>cases z <;>rfl
  ·rfl
def At.handed{env:Env}{fr:Fr}{a:Act}{w:World}(u:At γ κ n env fr a w):∀j v,κ.L j=some v->j <fr.length:=fun j v z=>by
 obtain⟨_,_,L,y,_⟩:=u;obtain⟨D,h1,_⟩:=y.hand j v z;exact aC h1
theorem At.head{lv:Option (List Nat)}{h:Nat}{env:Env}{fr:Fr}{a:Act}{w:World}(J:At γ κ n env fr a w)(hh:∀j v,κ.L j=some v->j <h):At γ κ n (head lv h env fr).1 (head lv h env fr).2 a w:=by
 unfold Go.Proofs.YtcgdbhlnkificaaGreatDoor.head;split
 ·exact J
 ·rename_i l
  have hh:∀j v,κ.L j=some v->j <kz l h fr:=fun j v hj=>by
   unfold kz;split
   ·exact J.handed j v hj
   ·exact hh j v hj
  simp only;generalize kz l h fr=h at hh⊢;obtain⟨h1,h2,L,G,hV⟩:=J;obtain⟨U,z,V⟩:=G.nq ((List.range fr.length).filter (Nat.ble h));obtain⟨L',y,I⟩:=U.trim h hh;rw[GG]at y I;refine⟨h1,h2,L',y,fun t=>oE (tm:=fun t=>a.tmps.getD t undef) _ (fun p hp=>?_) t⟩;obtain⟨k,_,rfl⟩:=List.mem_map.1 hp;have Z:=qh (hV k);show SR _ _ _ (nX fr h (un (env k))) _
  unfold nX;split
  ·exact I _ _ (z.sr Z)
  ·split
   ·rename_i x D hx
    have hv:=(nH G V deep).1 _ x _ hx (fun i hi u b hu hb=>by
     refine oe G i ?_ u b hu hb;have:=List.all_eq_true.1 D i hi;exact List.mem_filter.2 ⟨List.mem_range.2 (G.lim i u hu),this⟩) Z
    have:=I _ _ (SR.t x _ hv);rw[SV.sub]at this;exact this
   ·exact I _ _ (z.sr Z)
end
section
variable {γ:Glob} {κ:Ctx} {fr:Fr} {L:Ls} {w:World}
def Marks.below{w':World}{ds:List Deferred}(h:Marks κ w ds)(hb:Below w.heap.size w w'):Marks κ w' ds:=by
 obtain⟨⟨v,h1,h2,h3⟩,h4⟩:=h;exact⟨⟨v,h1,h2,fun D u=>⟨(h3 D u).1,(hb.block D (Array.getElem?_eq_some_iff.1 (h3 D u).2).1).trans (h3 D u).2⟩⟩,h4⟩
def Marks.put{l:Nat}{r:Loop}{o:Obj}{ds:List Deferred}(h:Marks κ w ds)(hl:w.heap[l]?=some (.loop r)):Marks κ (w.putObj l o) ds:=by
 obtain⟨⟨y,h1,h2,h3⟩,h4⟩:=h;refine⟨⟨y,h1,h2,fun D u=>⟨(h3 D u).1,?_⟩⟩,h4⟩;have v:D≠l:=fun e=>by subst e;rw[(h3 D u).2]at hl;cases hl
 exact(World.putObj_heap_other v).trans (h3 D u).2
def ar.EJ(h:ar γ κ fr L w){W1 D:World}(hW:Lq γ.n κ.W W1)(hw:Lq γ.n w D)(hk:∀k,k <κ.W.heap.size->¬κ.X k->D.heap[k]?=W1.heap[k]?):ar γ ⟨κ.M,κ.X,κ.H,W1,κ.L⟩ fr L D where
 glob:=γ.stays _ _ h.glob fun k hk=>by
  rcases hw.blk k with h1|⟨J,_⟩
  ·exact h1
  ·omega
 gn:=by show γ.n<=W1.heap.size;rw[hW.size];exact h.gn
 gx:=fun b y=>by show _/\b <W1.heap.size;rw[hW.size];exact h.gx b y
 fresh:=fun b y=>h.fresh b (by have y:W1.heap.size<=b:=y;rw[hW.size]at y;exact y)
 os:=(hw.os.trans h.os).trans hW.os.symm
 tape:=(hw.tape.trans h.tape).trans hW.tape.symm
 output:=(hw.output.trans h.output).trans hW.output.symm
 size:=by show W1.heap.size<=_;rw[hW.size,hw.size];exact h.size
 kept:=fun k u I=>hk k (by have u:k <W1.heap.size:=u;rw[hW.size]at u;exact u) I
 lim:=h.lim
 new:=fun i v b z h1 h2 h3=>by
  show _/\_/\(W1.heap.size<=b\/_)/\(_->W1.heap.size<=b\/_)
  rw[hw.size,hW.size];exact h.new i v b z h1 h2 h3
 dis:=h.dis
 hand:=h.hand
 blk:=fun i z G=>(h.blk i z G).lq hw
theorem FF{A:Nat->Prop}:∀(z:List Nat) (D:List AV) (us:List Value) (env:Env) (tm:Array Value),z.length=D.length->us.length=D.length->(∀p∈z,p <tm.size)->(∀t,SR A L w (env t) (tm.getD t undef))->(∀(j:Nat) (x:AV) (u:Value),D[j]?=some x->us[j]?=some u->VR A w x u)->
  ∀t,SR A L w (oK z D env t) (((z.zip us).foldl (fun t (p,v)=>t.setIfInBounds p v) tm).getD t undef)
 |[],D,us,env,tm,_,_,_,h,_=>by unfold oK;simpa using h
 |p::z,[],us,env,tm,h1,_,_,_,_=>by cases h1
 |p::z,y::D,[],env,tm,_,h2,_,_,_=>by cases h2
 |p::z,y::D,u::us,env,tm,h1,h2,I,h,J=>by
  unfold oK;rw[List.zip_cons_cons,List.foldl_cons];refine FF z D us _ _ (by simpa using h1) (by simpa using h2) (fun q U=>by rw[Array.size_setIfInBounds];exact I q (by simp[U])) (fun t=>?_) (fun j x v Z V=>J (j+1) x v (by simpa using Z) (by simpa using V)) ;by_cases G:t=p
  ·subst G;rw[iq,Array.getD_eq_getD_getElem?,Array.getElem?_setIfInBounds_self_of_lt (I t (by simp))];exact .t _ _ (J 0 y u rfl rfl)
  ·rw[qi G,Array.getD_eq_getD_getElem?,Array.getElem?_setIfInBounds_ne (Ne.symm G),<- Array.getD_eq_getD_getElem?];exact h t
theorem G0:∀(l:List (Nat×Value)) (tm:Array Value),(l.foldl (fun t (p,v)=>t.setIfInBounds p v) tm).size=tm.size
 |[],_=>rfl
 |(p,v)::l,tm=>by rw[List.foldl_cons,G0 l];exact Array.size_setIfInBounds
def Out.code:Out->Code
 | .normal=>.skip
 | .exit id=>.exit id
 | .ret=>.ret
structure fY (γ:Glob) (κ:Ctx) (T:AV->Value->Prop) (S:Nat) (lo:Loop) (tm:Array Value) (ds:List Deferred) (env:Env) (fr:Fr) (L:Ls) (X:World):Prop where
 bo:ar γ κ fr L X
 env:∀t,SR (MA κ.M fr L) L X (env t) (tm.getD t undef)
 cap:∀x v,T x v->VR (MA κ.M fr L) X x v
 marks:Marks κ X ds
 gv:X.heap[S+1]?=some (.loop lo)
 ml:X.heap[S]?=some (.deferred (some []))
variable {T:AV->Value->Prop} {S:Nat} {lo lo':Loop} {tm:Array Value} {ds:List Deferred} {env:Env} {X Y:World}
theorem fY.below(h:fY γ κ T S lo tm ds env fr L X)(hb:Below X.heap.size X Y):fY γ κ T S lo tm ds env fr L Y where
 bo:=h.bo.later hb
 env:=fun t=>(h.env t).later hb
 cap:=fun x v u=>(h.cap x v u).later hb
 marks:=h.marks.below hb
 gv:=(hb.block _ (Array.getElem?_eq_some_iff.1 h.gv).1).trans h.gv
 ml:=(hb.block _ (Array.getElem?_eq_some_iff.1 h.ml).1).trans h.ml
theorem fY.put(y:κ.W.heap.size<=S)(h:fY γ κ T S lo tm ds env fr L X):fY γ κ T S lo' tm ds env fr L (X.putObj (S+1) (.loop lo')) where
 bo:=h.bo.lq (Lq.put (by omega) h.gv rfl)
 env:=fun t=>(h.env t).lq (Lq.put (B:=S+1) (Nat.le_refl _) h.gv rfl)
 cap:=fun x v u=>(h.cap x v u).lq (Lq.put (B:=S+1) (Nat.le_refl _) h.gv rfl)
 marks:=h.marks.put h.gv
 gv:=World.putObj_heap_same (Array.getElem?_eq_some_iff.1 h.gv).1
 ml:=(World.putObj_heap_other (by omega)).trans h.ml
theorem fY.head{lv:Option (List Nat)}{h:Nat}(y:fY γ κ T S lo tm ds env fr L X)(hh:∀j v,κ.L j=some v->j <h):∃L',fY γ κ T S lo tm ds (head lv h env fr).1 (head lv h env fr).2 L' X:=by
 unfold Go.Proofs.YtcgdbhlnkificaaGreatDoor.head;split
 ·exact⟨L,y⟩
 ·rename_i l
  have hh:∀j v,κ.L j=some v->j <kz l h fr:=fun j v hj=>by
   unfold kz;split
   ·obtain⟨lb,h1,_⟩:=y.bo.hand j v hj;exact aC h1
   ·exact hh j v hj
  simp only;generalize kz l h fr=h at hh⊢;obtain⟨J,z,U⟩:=y.bo.nq ((List.range fr.length).filter (Nat.ble h));obtain⟨L',D,G⟩:=J.trim h hh;rw[GG]at D G;refine⟨L',D,fun t=>oE (tm:=fun t=>tm.getD t undef) _ (fun p hp=>?_) t,fun x v hx=>?_,y.marks,y.gv,y.ml⟩
  ·obtain⟨k,_,rfl⟩:=List.mem_map.1 hp;have V:=qh (y.env k);show SR _ _ _ (nX fr h (un (env k))) _
   unfold nX;split
   ·exact G _ _ (z.sr V)
   ·split
    ·rename_i x I hx
     have Z:=(nH y.bo U deep).1 _ x _ hx (fun i hi u b hu hb=>by
      refine oe y.bo i ?_ u b hu hb;have:=List.all_eq_true.1 I i hi;exact List.mem_filter.2 ⟨List.mem_range.2 (y.bo.lim i u hu),this⟩) V
     have:=G _ _ (SR.t x _ Z);rw[SV.sub]at this;exact this
    ·exact G _ _ (z.sr V)
  ·have:=G _ _ (SR.t x _ (z.vr (y.cap x v hx)));rw[SV.sub]at this
   cases this with
   |t _ _ Z=>exact Z
def Loop.Nd(h1:lo.state=.ready)(h2:lo.pending=none):{{lo with state:=.busy}with state:=.ready,pending:=none}=lo:=by
 cases lo;simp_all
def NN{g:Cfg}{n:Nat}{lv:Option (List Nat)}{A B:Env->Fr->Option (Out×Env×Fr)}{asg body:Code}
  (hA:∀env fr o env' fr',A env fr=some (o,env',fr')->∀κ l dn a w,At γ κ n env fr a w->asg.wpIn (Fw (some l)) dn g.P (l7 γ κ n o env' fr') a w)
  (hB:∀env fr o env' fr',B env fr=some (o,env',fr')->∀κ l dn a w,At γ κ n env fr a w->body.wpIn (Fw (some l)) dn g.P (l7 γ κ n o env' fr') a w)
  (aG:∀p∈lo.params.toList,p <n)(hS:κ.W.heap.size<=S)(h1:lo.state=.ready)(h2:lo.pending=none)(h3:lo.assign=asg)(h4:lo.body=body)(an:lo.tmps.size=n)
  (h:fY γ κ T S lo lo.tmps ds env fr L X){y:List AV}{o:Out}{e:Env}{r:Fr}(hr:lR lv A B lo.params.toList y env fr=some (o,e,r)){us:Array Value}(ao:us.size=y.length)
  (hv:∀(j:Nat) (x:AV) (u:Value),y[j]?=some x->us[j]?=some u->VR (MA κ.M fr L) X x u)(m:Nat):
  YieldAt (Fw none) m g.P (S+1) us X fun en Y=>(o=.normal/\en=.returned (.bool true)/\∃L',fY γ κ T S lo lo.tmps ds e r L' Y)\/(o≠.normal/\en=.returned (.bool false)/\∃L',fY γ κ T S {lo with state:=.done,pending:=some o.code} lo.tmps ds e r L' Y):=by
 have hγ:γ.n<=S+1:=by have:=h.bo.gn;omega
 unfold lR at hr;split at hr
 ·cases hr
 rename_i J;rw[Nat.beq_eq]at J;split at hr
 ·cases hr
 rename_i bs hb;split at hr
 rotate_left
 ·cases hr
 rename_i e1 r1 au;split at hr
 ·cases hr
 rename_i V e2 r2 av;split at hr
 ·cases hr
 rename_i aF;obtain⟨c1,c2,c3⟩:=h.bo.handed List.nodup_range hb;have al:¬(bU κ fr L X (List.range fr.length)).X (S+1):=fun⟨i,_,v,lb,q1,q2,q3,q4⟩=>(h.bo.mark (by omega) h.gv rfl).2 ⟨i,v,lb,q1,q2,q3,q4⟩;have U:S+1 <X.heap.size:=(Array.getElem?_eq_some_iff.1 h.gv).1
 have Bm:At γ (bU κ fr L X (List.range fr.length)) n (oK lo.params.toList y fun t=>(env t).sub (bc (List.range fr.length))) (bs.map fun b=>cU (b.sub (bc (List.range fr.length)))) {tmps:=(lo.params.zip us).foldl (fun t (p,v)=>t.setIfInBounds p v) lo.tmps,defers:=[]} X:=by
  have hz:(lo.params.zip us).foldl (fun t (p,v)=>t.setIfInBounds p v) lo.tmps=(lo.params.toList.zip us.toList).foldl (fun t (p,v)=>t.setIfInBounds p v) lo.tmps:=by
   rw[<- Array.foldl_toList,Array.toList_zip]
  rw[hz];refine⟨Marks.nil,(G0 _ _).trans an,_,c1,FF _ _ _ _ _ (by rw[J]) (by simpa using ao) (fun p hp=>by rw[an];exact aG p hp) (fun t=>c3 _ _ (h.env t)) fun j x u hx hu=>?_⟩;exact VR.on (Nat.le_refl _) (fun b _ hm=>⟨c2 b hm,rfl⟩) (hv j x u hx (by simpa using hu))
 refine⟨lo.fn,(lo.params.zip us).foldl (fun t (p,v)=>t.setIfInBounds p v) lo.tmps,asg,body,?_,roundIn_of_wpIn trivial ?_⟩
 ·have:=run_yield (P:=g.P) (args:=us) h.gv (by rw[ao,J];simp);rw[h3,h4]at this;exact this
 refine wpIn_mono (hA _ _ _ _ _ au _ (S+1) m _ X Bm) fun ex a1 X1 ⟨he,m1,s1,L1,Z,aB⟩=>?_;subst he;have G:X1.heap[S+1]?=some (.loop lo):=(Z.kept (S+1) U al).trans h.gv;refine⟨_,run_beginRound G h1,?_⟩
 have ax:ar γ ⟨(bU κ fr L X (List.range fr.length)).M,(bU κ fr L X (List.range fr.length)).X,(bU κ fr L X (List.range fr.length)).H,X.putObj (S+1) (.loop {lo with state:=.busy}),(bU κ fr L X (List.range fr.length)).L⟩ r1 L1 (X1.putObj (S+1) (.loop {lo with state:=.busy})):=
  Z.EJ (Lq.put hγ h.gv rfl) (Lq.put hγ G rfl) fun k hk hx=>by
   by_cases z:k=S+1
   ·subst z;rw[World.putObj_heap_same U,World.putObj_heap_same (Array.getElem?_eq_some_iff.1 G).1]
   ·rw[World.putObj_heap_other z,World.putObj_heap_other z];exact Z.kept k hk hx
 have ap:At γ _ n e1 r1 a1 (X1.putObj (S+1) (.loop {lo with state:=.busy})):=⟨by
  obtain⟨⟨Ds,n1,n2,n3⟩,n4⟩:=m1.put (o:=.loop {lo with state:=.busy}) G
  exact⟨⟨Ds,n1,n2,fun D hD=>⟨by
   show(X.putObj (S+1) _).heap.size<=D
   rw[World.putObj_size];exact(n3 D hD).1,(n3 D hD).2⟩⟩,fun hh=>n4 (by
   have hh:(bU κ fr L X (List.range fr.length)).H (X.putObj (S+1) (.loop {lo with state:=.busy})).heap.size:=hh;rw[World.putObj_size]at hh;exact hh)⟩,s1,L1,ax,fun t=>(aB t).lq (Lq.put (B:=S+1) (Nat.le_refl _) G rfl)⟩
 refine wpIn_mono (hB _ _ _ _ _ av _ (S+1) m a1 _ ap) fun ex a3 X3 ⟨he,_,_,L3,ab,aM⟩=>?_;subst he;have I:X3.heap[S+1]?=some (.loop {lo with state:=.busy}):=(ab.kept (S+1) (by show S+1 <(X.putObj (S+1) _).heap.size;rw[World.putObj_size];exact U) al).trans (World.putObj_heap_same U)
 have aA:ar γ (bU κ fr L X (List.range fr.length)) r2 L3 (X3.putObj (S+1) (.loop lo)):=by
  refine ab.EJ (W1:=X) ⟨rfl,rfl,rfl,World.putObj_size.symm,fun b=>?_⟩ (Lq.put hγ I rfl) fun k hk hx=>?_
  ·by_cases ag:b=S+1
   ·subst ag;exact .inr ⟨hγ,_,World.putObj_heap_same U,rfl⟩
   ·exact .inl (World.putObj_heap_other ag).symm
  ·by_cases z:k=S+1
   ·subst z;rw[World.putObj_heap_same (Array.getElem?_eq_some_iff.1 I).1];exact h.gv.symm
   ·rw[World.putObj_heap_other z,ab.kept k hk hx];exact World.putObj_heap_other z
 obtain⟨b1,b2,b3,b4⟩:=h.bo.back List.nodup_range hb aA aF
 have r4:fY γ κ T S lo lo.tmps ds (dR (dL (List.range fr.length) r2) env) (back (List.range fr.length) fr r2) (fG (List.range fr.length) fr.length L L3) (X3.putObj (S+1) (.loop lo)):=
  ⟨b1,fun t=>b2.env (h.env t),fun x v hx=>b2.vr (h.cap x v hx),h.marks.tr h.bo b2,World.putObj_heap_same (Array.getElem?_eq_some_iff.1 I).1,(b2.same S (by omega) (h.bo.mark hS h.ml rfl)).2.trans h.ml⟩
 have ad:∀j v,κ.L j=some v->j <fr.length:=fun j v hj=>by
  obtain⟨lb,q1,_⟩:=h.bo.hand j v hj;exact aC q1
 have fin:∀(V:Out),V≠.normal->∃v w',(Instr.endRound (S+1) (some V.code)).run g.P X3=.ok v w'/\v=.bool false/\fY γ κ T S {lo with state:=.done,pending:=some V.code} lo.tmps ds (dR (dL (List.range fr.length) r2) env) (back (List.range fr.length) fr r2) (fG (List.range fr.length) fr.length L L3) w':=fun V _=>by
  refine⟨_,_,run_endRound (some V.code) I,rfl,?_⟩;have:=r4.put (lo':={lo with state:=.done,pending:=some V.code}) hS
  have e:(X3.putObj (S+1) (.loop lo)).putObj (S+1) (.loop {lo with state:=.done,pending:=some V.code})=X3.putObj (S+1) (.loop {lo with state:=.done,pending:=some V.code}):=by
   simp[World.putObj]
  rw[e]at this;exact this
 cases V with
 |normal=>
  simp only at hr;cases hr;have:=run_endRound (P:=g.P) none I;refine⟨_,_,this,.inl ⟨rfl,rfl,?_⟩⟩;have e:({{lo with state:=.busy}with state:=if(none:Option Code).isNone then .ready else .done,pending:=none}:Loop)=lo:=Loop.Nd h1 h2;rw[e];exact r4.head ad
 |exit id=>
  simp only at hr;cases hr;obtain⟨v,w',q1,rfl,q2⟩:=fin (.exit id) (by simp);exact⟨_,w',q1,.inr ⟨by simp,rfl,_,q2⟩⟩
 |ret=>
  simp only at hr;cases hr;obtain⟨v,w',q1,rfl,q2⟩:=fin .ret (by simp);exact⟨_,w',q1,.inr ⟨by simp,rfl,_,q2⟩⟩
def M5{g:Cfg}{n dn:Nat}{lv:Option (List Nat)}{Aa B:Env->Fr->Option (Out×Env×Fr)}{op:Operand}{ps:Array Tmp}{asg body:Code}{a:Act}{gf:Nat}{lb:Array Value}{yss:List (List AV)}{wh:Bool}{o:Out}{env':Env}{fr':Fr}
  (hA:∀env fr o env' fr',Aa env fr=some (o,env',fr')->∀κ l dn a w,At γ κ n env fr a w->asg.wpIn (Fw (some l)) dn g.P (l7 γ κ n o env' fr') a w)
  (hB:∀env fr o env' fr',B env fr=some (o,env',fr')->∀κ l dn a w,At γ κ n env fr a w->body.wpIn (Fw (some l)) dn g.P (l7 γ κ n o env' fr') a w)
  (ap:∀p∈ps.toList,p <n)(hg:a.eval op=.func (.func gf) #[] lb)(V:uq γ g.P gf lb T yss wh)(h:kV lv Aa B ps.toList wh yss env fr=some (o,env',fr'))
  (hfl:¬κ.H κ.W.heap.size)(hd:Marks κ w a.defers)(hn:a.tmps.size=n)(hC:ar γ κ fr L w)(hV:∀t,SR (MA κ.M fr L) L w (env t) (a.tmps.getD t undef))(ad:∀x v,T x v->VR (MA κ.M fr L) w x v):
  (Code.rangeFunc op ps asg body).wpIn (Fw none) dn g.P (l7 γ κ n o env' fr') a w:=by
 refine wpIn_rangeFunc fun fn _=>?_;obtain⟨hk,V⟩:=V;obtain⟨lo,u⟩:∃lo:Loop,lo={state:=.ready,pending:=none,fn,tmps:=a.tmps,params:=ps,assign:=asg,body,defers:=w.heap.size}:=⟨_,rfl⟩;have ab:κ.W.heap.size<=w.heap.size:=hC.size;have Z:lo.tmps=a.tmps:=by rw[u]
 have J:Below w.heap.size w ((w.alloc (.deferred (some []))).alloc (.loop lo)):=((Below.refl _ w).alloc (Nat.le_refl _) _).alloc (by simp) _
 have r1:fY γ κ T w.heap.size lo lo.tmps a.defers env fr L ((w.alloc (.deferred (some []))).alloc (.loop lo)):=by
  refine⟨hC.later J,fun t=>?_,fun x v hx=>(ad x v hx).later J,hd.below J,?_,?_⟩
  ·rw[Z];exact(hV t).later J
  ·have:=World.alloc_heap_new (w.alloc (.deferred (some []))) (.loop lo);rwa[World.size_alloc]at this
  ·exact(Below.heap_alloc _ _ _ (by simp)).trans (World.alloc_heap_new w _)
 have U:∀{G:Ls} {lo':Loop} {e:Env} {r:Fr} {Y:World},fY γ κ T w.heap.size lo' lo.tmps a.defers e r G Y->At γ κ n e r {a with defers:=[{target:=.collected w.heap.size,args:=#[]}]++a.defers} (Y.putObj (w.heap.size+1) (.loop {lo' with state:=.exhausted})):=fun{G lo' e r Y} hr=>by
  have h1:=hr.put (lo':={lo' with state:=.exhausted}) ab;refine⟨?_,hn,G,h1.bo,fun t=>?_⟩
  ·obtain⟨⟨Ds,n1,n2,n3⟩,_⟩:=h1.marks;obtain⟨⟨al,m1,m2,m3⟩,_⟩:=hd
   have an:Ds=al:=by
    have:=n2.symm.trans m2;exact List.map_inj_right (fun x y av=>by simpa using av)|>.1 this
   subst an;refine⟨⟨w.heap.size::Ds,List.nodup_cons.2 ⟨fun hm=>?_,n1⟩,?_,fun D hD=>?_⟩,fun hh=>absurd hh hfl⟩
   ·have:=(Array.getElem?_eq_some_iff.1 (m3 _ hm).2).1;omega
   ·show _::a.defers=_
    rw[n2];rfl
   ·rcases List.mem_cons.1 hD with rfl|hD
    ·exact⟨ab,h1.ml⟩
    ·exact n3 D hD
  ·have:=h1.env t;rw[Z]at this;exact this
 refine⟨w.heap.size+1,[{target:=.collected w.heap.size,args:=#[]}],(w.alloc (.deferred (some []))).alloc (.loop lo),{target:=.fn (.func gf) lb,args:=#[.func (.yield (w.heap.size+1)) #[] #[]]},(w.alloc (.deferred (some []))).alloc (.loop lo),gf,#[.func (.yield (w.heap.size+1)) #[] #[]]++lb,(w.alloc (.deferred (some []))).alloc (.loop lo),?_,?_,fun _ _=>trivial,?_,(fun hh=>by cases hh),?_⟩
 ·rw[u];exact run_enterLoop_outer _ _ _ _ _
 ·simp only[resolve,hg];simp[go_sem]
 ·simp[invoke,go_sem,z7 hk]
 ·refine(V (w.heap.size+1) (fun q A X=>∃e r G,kV lv Aa B ps.toList wh q e r=some (o,env',fr')/\A=MA κ.M r G/\fY γ κ T w.heap.size lo lo.tmps a.defers e r G X)
   (fun X=>o≠.normal/\∃G,fY γ κ T w.heap.size {lo with state:=.done,pending:=some o.code} lo.tmps a.defers env' fr' G X) _ _ ?_ ?_ ?_ ?_ ?_ ⟨env,fr,L,h,rfl,r1⟩ (dn - 1)).mono ?_
  ·rintro q A X Y ⟨e,r,G,I,q2,z⟩ hb;exact⟨e,r,G,I,q2,z.below hb⟩
  ·rintro X Y ⟨I,G,z⟩ hb;exact⟨I,G,z.below hb⟩
  ·rintro q A X ⟨e,r,G,I,rfl,z⟩;exact⟨z.bo.pure _ fun b hb=>⟨z.bo.fresh b (Nat.le_trans z.bo.size hb),fun ho=>by have:=(z.bo.own ho).1;omega⟩,z.cap⟩
  ·rintro au A X ⟨e,r,G,I,_⟩;subst au;cases I
  ·rintro y q A us X ⟨e,r,G,I,rfl,z⟩ hus hv m;unfold kV at I
   have go:∀{o1:Out} {e1:Env} {f1:Fr},lR lv Aa B ps.toList y e r=some (o1,e1,f1)->YieldAt (Fw none) m g.P (w.heap.size+1) us X _:=fun{o1 e1 f1} hr=>
    NN (lo:=lo) (asg:=asg) (body:=body) hA hB (by rw[u];exact ap) ab (by rw[u]) (by rw[u]) (by rw[u]) (by rw[u]) (by rw[u];exact hn) z (by rw[u];exact hr) hus hv m
   split at I
   ·rename_i e1 f1 hr;obtain⟨fn,tmps,ag,bd,y1,y2⟩:=go hr;refine⟨fn,tmps,ag,bd,y1,y2.mono ?_⟩;rintro en Y (⟨_,z1,L2,z2⟩|⟨z0,_⟩)
    ·exact .inl ⟨z1,_,_,_,_,I,rfl,z2⟩
    ·exact absurd rfl z0
   ·rename_i ao;obtain⟨fn,tmps,ag,bd,y1,y2⟩:=go I;refine⟨fn,tmps,ag,bd,y1,y2.mono ?_⟩;rintro en Y (⟨z0,_⟩|⟨z0,z1,L2,z2⟩)
    ·subst z0;exact absurd I (ao _ _)
    ·exact .inr ⟨z1,z0,L2,z2⟩
  ·rintro en Y ⟨⟨v,rfl⟩,⟨hwh,A',e,r,G,I,_,z⟩|⟨I,G,z⟩⟩
   ·subst hwh;cases I;have:=run_endLoop (P:=g.P) z.gv (by rw[u];simp);have hp:lo.pending=none:=by rw[u]
    refine⟨lo.pending,_,this,?_⟩;split
    ·exact⟨rfl,U z⟩
    ·rename_i hc;rw[hp]at hc;cases hc
   ·have:=run_endLoop (P:=g.P) z.gv (by simp);refine⟨some o.code,_,this,?_⟩
    cases o with
    |normal=>exact absurd rfl I
    |exit id=>exact wpIn_exit ⟨rfl,U z⟩
    |ret=>exact wpIn_ret ⟨rfl,U z⟩
end
section
variable {g:Cfg} {γ:Glob} {κ:Ctx} {C:CallF} {Lp:LoopF} {n:Nat}
def uV(al:g.P.follows .mixedOrders=true)(hS:ee g.P γ C)(hL:r_ g γ Lp)(hQ:∀(gf:Nat) (xs:List AV) (yss:List (List AV)) (wh:Bool),g.seq gf xs=some (yss,wh)->∀(lb:Array Value),lb.size=xs.length->uq γ g.P gf lb (ui xs lb) yss wh){f:Nat}:∀(c:Code) (env:Env) (fr:Fr) (o:Out) (env':Env) (fr':Fr),bq g f C Lp c env fr=some (o,env',fr')->kj g f n c=true->∀(κ:Ctx) (rd:Option Nat) (dn:Nat) (a:Act) (w:World),((rd=none/\¬κ.H κ.W.heap.size)\/dH c=true)->At γ κ n env fr a w->c.wpIn (Fw rd) dn g.P (l7 γ κ n o env' fr') a w:=by
 intro c
 induction c with
 |skip=>intro env fr o env' fr' h _ κ rd dn a w G U;unfold bq at h;cases h;exact wpIn_skip ⟨rfl,U⟩
 |exit id=>intro env fr o env' fr' h _ κ rd dn a w G U;unfold bq at h;cases h;exact wpIn_exit ⟨rfl,U⟩
 |ret=>intro env fr o env' fr' h _ κ rd dn a w G U;unfold bq at h;cases h;exact wpIn_ret ⟨rfl,U⟩
 |region id ops av=>
  intro env fr o env' fr' h u κ rd dn a w G U;unfold bq at h;unfold kj at u;rw[Bool.and_eq_true]at u;obtain⟨h1,h2,L,I,J⟩:=U;split at h
  ·rename_i e r z;cases h;unfold nj at z
   cases av with
   |false=>
    simp only at z;split at z
    ·have:=Ek (rd:=rd) (dn:=dn) hS (ops:=ops) (n:=n) (κ:=κ) (Q:=l7 γ κ n .normal env' fr') (env':=env') (fr':=fr') u.1 (fun L a w hd Z I J=>⟨rfl,hd,Z,L,I,J⟩) ops.toList 0 env fr L a w (fun o ho=>ho) z h1 h2 I J;exact wpIn_region_lit (l:=ops.toList) (by simpa using this)
    ·rename_i k _ _;unfold sI at z;split at z
     ·cases z
     ·rename_i e1 r1 aB;split at z
      ·cases z
      ·rename_i o l hl;split at z
       ·cases z
       ·rename_i hg;split at z
        ·cases z
        ·rename_i x r2 hB;have ao:∀o'∈o::l,o'∈ops.toList:=fun o' ad=>List.mem_of_mem_drop (by rw[hl];exact ad)
         have aF:=Mm (rd:=rd) (dn:=dn) hS (ops:=ops) (n:=n) (κ:=κ) (Q:=l7 γ κ n .normal env' fr') (env':=e1) (fr':=r1) (l2:=o::l) u.1 (fun L a w hd Z I J=>by
          unfold wpListIn;rw[if_pos (by simp[Region.wanted,hg])];refine(HA hB κ L a w I (fun y _=>nh J y)).wpIn fun v w' ⟨L',hT,aG,hv⟩=>?_;refine Ek (rd:=rd) (dn:=dn) hS (ops:=ops) (n:=n) (κ:=κ) (Q:=l7 γ κ n .normal env' fr') (env':=env') (fr':=fr') u.1 (fun L a w hd Z I J=>⟨rfl,hd,Z,L,I,J⟩) l (k+1) _ _ L' _ _ (fun o' ad=>ao o' (by simp[ad])) z (by rw[put_defers];exact hd.tr I hT) (by rw[bR,Z]) aG ?_;exact lP (fun t=>hT.env (J t)) hv fun q hq=>by rw[Z];exact jv u.1 (ao o (by simp)) hq) (ops.toList.take k) 0 env fr L a w (fun o' ad=>List.mem_of_mem_take ad) aB h1 h2 I J
         rw[<- hl,List.take_append_drop]at aF;exact wpIn_region_lit (l:=ops.toList) (by simpa using aF)
   |true=>
    match hm:qH (g.eff f id)with
    |0=>
     have D:=u.2;simp only[hm]at z D;obtain⟨E,F,a1,a2,a3,a4,a5⟩:=El ops.toList 0 env fr z
     have hE:Steps g C ops (g.eff f id) E F:=fun i o ho=>by
      have:=a3 i o (by rw[Array.getElem?_toList];exact ho);rwa[Nat.zero_add]at this
     rw[Array.length_toList]at a4 a5;refine wpIn_region_any al (Qr (n:=n) (κ:=κ) (E:=E) (F:=F) hS (IK D) u.1 hE (fun L a w hd Z I J=>⟨rfl,hd,Z,L,by rw[<- a5];exact I,by rw[<- a5,<- a4];exact J⟩) _ 0 L _ a _ ?_ (ir.start h1 h2 ?_ fun t=>?_))
     ·unfold fC;exact Nat.le_trans (List.countP_le_length) (by simp)
     ·rw[a2];exact I.later (Below.drew (Below.refl _ _))
     ·rw[a1,a2];exact(J t).later (Below.drew (Below.refl _ _))
    |1=>
     have D:=u.2;simp only[hm]at z D;obtain⟨E,F,a1,a2,a3,a4,a5⟩:=tB ops.toList 0 env fr z
     have hE:jk g C ops (g.eff f id) E F:=fun i o ho=>by
      have:=a3 i o (by rw[Array.getElem?_toList];exact ho);rwa[Nat.zero_add]at this
     rw[Array.length_toList]at a4 a5;refine wpIn_region_any al (Qt (n:=n) (κ:=κ) (E:=E) (F:=F) hS (B9 D) u.1 hE (fun L a w hd Z I J=>⟨rfl,hd,Z,L,by rw[<- a5];exact I,by rw[<- a5,<- a4];exact J⟩) _ 0 L _ a _ ?_ (db.start h1 h2 ?_ fun t=>?_))
     ·unfold fC;exact Nat.le_trans (List.countP_le_length) (by simp)
     ·rw[a2];exact I.later (Below.drew (Below.refl _ _))
     ·rw[a1,a2];exact(J t).later (Below.drew (Below.refl _ _))
    |3=>simp only[hm]at z;cases z
    |4=>
     have D:=u.2;simp only[hm]at z D;refine wpIn_region_any al (Nj (n:=n) (κ:=κ) (L:=L) hS D u.1 z (fun L a w hd Z I J=>⟨rfl,hd,Z,L,I,J⟩) h1 h2 (I.later (Below.drew (Below.refl _ _))) fun t=>(J t).later (Below.drew (Below.refl _ _)))
    |2=>simp only[hm]at z;cases z
    |5=>
     have D:=u.2;simp only[hm]at z D;refine wpIn_region_any al (Nk (n:=n) (κ:=κ) (L:=L) hS (B9 D) u.1 z (fun L a w hd Z I J=>⟨rfl,hd,Z,L,I,J⟩) h1 h2 (I.later (Below.drew (Below.refl _ _))) fun t=>(J t).later (Below.drew (Below.refl _ _)))
    |n+6=>simp only[hm]at z;cases z
  ·cases h
 |seq x y an au=>
  intro env fr o env' fr' h u κ rd dn a w G U;unfold bq at h;unfold kj at u;rw[Bool.and_eq_true]at u;have ab:(rd=none/\¬κ.H κ.W.heap.size)\/dH x=true:=G.imp (fun q=>q) fun q=>by unfold dH at q;rw[Bool.and_eq_true]at q;exact q.1
  have ag:(rd=none/\¬κ.H κ.W.heap.size)\/dH y=true:=G.imp (fun q=>q) fun q=>by unfold dH at q;rw[Bool.and_eq_true]at q;exact q.2
  split at h
  ·rename_i e r hx;refine wpIn_seq (wpIn_mono (an _ _ _ _ _ hx u.1 κ rd dn a w ab U) fun ex a' w' ⟨z,V⟩=>?_);subst z;exact au _ _ _ _ _ h u.2 κ rd dn a' w' ag V
  ·rename_i ap;refine wpIn_seq (wpIn_mono (an _ _ _ _ _ h u.1 κ rd dn a w ab U) fun ex a' w' ⟨z,V⟩=>?_);subst z
   cases o with
   |normal=>exact absurd h (ap _ _)
   |exit id=>exact⟨rfl,V⟩
   |ret=>exact⟨rfl,V⟩
 |cond c x y an au=>
  intro env fr o env' fr' h u κ rd dn a w G U;unfold bq at h;unfold kj at u;rw[Bool.and_eq_true]at u;have V:=U;have ab:(rd=none/\¬κ.H κ.W.heap.size)\/dH x=true:=G.imp (fun q=>q) fun q=>by unfold dH at q;rw[Bool.and_eq_true]at q;exact q.1
  have ag:(rd=none/\¬κ.H κ.W.heap.size)\/dH y=true:=G.imp (fun q=>q) fun q=>by unfold dH at q;rw[Bool.and_eq_true]at q;exact q.2
  obtain⟨_,_,L,I,J⟩:=V;have hc:=cu (nh J c);split at h
  ·rename_i hr;rw[hr]at hc;exact wpIn_cond_split (kG hc) (fun _=>an _ _ _ _ _ h u.1 κ rd dn a w ab U) (fun e=>by cases e)
  ·rename_i hr;rw[hr]at hc;exact wpIn_cond_split (kG hc) (fun e=>by cases e) (fun _=>au _ _ _ _ _ h u.2 κ rd dn a w ag U)
  ·cases h
 |block id b ih=>
  intro env fr o env' fr' h u κ rd dn a w G U;unfold bq at h;unfold kj at u;split at h
  ·rename_i i e r hx;refine wpIn_block (wpIn_mono (ih _ _ _ _ _ hx u κ rd dn a w (G.imp (fun q=>q) fun q=>by unfold dH at q;exact q) U) fun ex a' w' ⟨z,V⟩=>?_);subst z;simp only[Out.Re,Exit.inBlock];split at h
   ·rename_i hi;cases h;rw[if_pos (by simpa using hi)];exact⟨rfl,V⟩
   ·rename_i hi;cases h;rw[if_neg (by intro e;subst e;simp at hi)];exact⟨rfl,V⟩
  ·rename_i ap;refine wpIn_block (wpIn_mono (ih _ _ _ _ _ h u κ rd dn a w (G.imp (fun q=>q) fun q=>by unfold dH at q;exact q) U) fun ex a' w' ⟨z,V⟩=>?_);subst z
   cases o with
   |normal=>exact⟨rfl,V⟩
   |exit i=>exact absurd h (ap _ _ _)
   |ret=>exact⟨rfl,V⟩
 |loop b ih=>
  intro env fr o env' fr' h u κ rd dn a w G U;unfold bq at h;unfold kj at u;have h1:=At.own (env:=env) (fr:=fr) (g.own f (cX b)) env fr U;exact hL _ _ _ _ _ _ _ h n u κ rd dn a w (G.imp (fun q=>q) fun q=>by unfold dH at q;exact q) (h1.head h1.handed)
 |rangeFunc op ps asg body be bf=>
  intro env fr o env' fr' h u κ rd dn a w G U;obtain⟨rfl,a6⟩:rd=none/\¬κ.H κ.W.heap.size:=G.resolve_right (by unfold dH;simp);unfold bq at h;unfold kj at u;rw[Bool.and_eq_true,Bool.and_eq_true,Bool.and_eq_true,Bool.and_eq_true]at u;obtain⟨⟨⟨⟨w1,w2⟩,w3⟩,w4⟩,w5⟩:=u;split at h
  ·rename_i gf bs aA;split at h
   ·cases h
   ·rename_i cs aY;split at h
    ·cases h
    ·rename_i yss wh bd;obtain⟨d1,d2,L,I,J⟩:=U;obtain⟨fs,lb,hv,aR,aT,bi,aX⟩:=BI aA (cu (nh J op));obtain⟨aM,ax,aN⟩:=I.nq (br fr bs);obtain⟨p1,p2⟩:=qd I aN _ _ aY (oe I);have bb:fs=#[]:=Array.eq_empty_of_size_eq_zero (by rw[<- aR];rfl);subst bb;refine M5 (fun env fr o env' fr' h κ l dn a w U=>be _ _ _ _ _ h w1 κ (some l) dn a w (.inr w3) U) (fun env fr o env' fr' h κ l dn a w U=>bf _ _ _ _ _ h w2 κ (some l) dn a w (.inr w4) U) (fun p hp=>by simpa[Nat.blt_eq]using List.all_eq_true.1 w5 p hp) hv (hQ _ _ _ _ bd lb (by rw[<- aT,p1])) (T:=ui cs lb) h a6 (d1.tr I ax) d2 aM (fun t=>ax.sr (J t)) fun x v ⟨j,hx,hu⟩=>?_;obtain⟨s,hs⟩:=am (xs:=bs) (k:=j) (by rw[p1];exact aC hx);exact p2 j s x v hs hx (aX j s v hs hu)
  ·cases h
 |_=>intro env fr o env' fr' h;unfold bq at h;cases h
def Ll{P:Program}{A:Nat->Prop}{L:Ls}{w:World}{fr:Fr}{t:Nat}{s x:SV}{v:Value}(h:fO P fr t s=some x)(hs:SR A L w s v):∃a,v=.pointer (some a):=by
 unfold fO at h;split at h
 ·cases h
 ·split at h
  ·obtain⟨b,o,u,rfl,_⟩:=q9 hs;exact⟨_,rfl⟩
  ·obtain⟨b,_,rfl⟩:=lB hs;exact⟨_,rfl⟩
  ·obtain⟨b,m,c,_,rfl⟩:=pw hs;exact⟨_,rfl⟩
  ·obtain⟨_,b,m,c,_,_,rfl⟩:=vn hs;exact⟨_,rfl⟩
  ·cases h
def zP(tmps:Array Value):ResultVar->Sem Value
 | .tmp t=>pure (tmps.getD t undef)
 | .cell a t=>do loadVar t (<- asAddr (tmps.getD a undef))
def Nn(fn:Func)(tmps:Array Value):results fn tmps=(do let vs <- fn.results.mapM (zP tmps);pure (if h:vs.size=1 then vs[0]else .tuple vs)):=by
 unfold results;congr 2
def Nl{P:Program}{γ:Glob}{κ:Ctx}{fr:Fr}{L:Ls}{w:World}{env:Env}{tmps:Array Value}(G:ar γ κ fr L w)(y:∀t,SR (MA κ.M fr L) L w (env t) (tmps.getD t undef)){r:ResultVar}{q:Nat×Option Nat}{x:SV}(hq:fP [r]=[q])(hx:Em P env fr q=some x):∃v,(zP tmps r).run P w=.ok v w/\SR (MA κ.M fr L) L w x v:=by
 cases r with
 |tmp t=>unfold fP fP at hq;cases hq;cases hx;exact⟨_,rfl,y t⟩
 |cell a T=>
  unfold fP fP at hq;cases hq;have hx:fO P fr T (un (env a))=some x:=hx;have z:=qh (y a);obtain⟨I,D⟩:=Ll hx z;obtain⟨u,h1,h2⟩:=tn G hx z;refine⟨u,?_,h2⟩;rw[D]at h1;show((asAddr (tmps.getD a undef))>>=fun d=>loadVar T d).run P w=_
  rw[D];simpa[Instr.loadAt,Instr.sureAddr,asAddr,Sem.run_bind]using h1
def zQ{P:Program}{γ:Glob}{κ:Ctx}{fr:Fr}{L:Ls}{w:World}{env:Env}{fn:Func}{tmps:Array Value}{x:SV}(hC:ar γ κ fr L w)(hV:∀t,SR (MA κ.M fr L) L w (env t) (tmps.getD t undef))(h:oH P env fr (fP fn.results.toList)=some x)(al:fn.results.size<=4):
  ∃v,(results fn tmps).run P w=.ok v w/\SR (MA κ.M fr L) L w x v:=by
 have ab:∀(l:List ResultVar) (xs:List SV),tD P env fr (fP l)=some xs->∃I:List Value,I.length=l.length/\xs.length=l.length/\∀(j:Nat) (r:ResultVar) (x:SV) (v:Value),l[j]?=some r->xs[j]?=some x->I[j]?=some v->(zP tmps r).run P w=.ok v w/\SR (MA κ.M fr L) L w x v:=fun l=>by
  induction l with
  |nil=>intro xs h;unfold fP tD at h;cases h;exact⟨[],rfl,rfl,fun j r x v U=>by simp at U⟩
  |cons r l ih=>
   intro xs h;have hc:∃q,fP [r]=[q]/\fP (r::l)=q::fP l:=by cases r <;>exact⟨_,rfl,rfl⟩
   obtain⟨q,hq,hc⟩:=hc;rw[hc]at h;unfold tD at h;split at h
   ·cases h
   ·rename_i x0 an;split at h
    ·cases h
    ·rename_i au ap;cases h;obtain⟨G,e1,e2⟩:=Nl hC hV hq an;obtain⟨I,V,Z,D⟩:=ih _ ap;refine⟨G::I,by simp[V],by simp[Z],fun j r' x v U y z=>?_⟩
     cases j with
     |zero=>cases U;cases y;cases z;exact⟨e1,e2⟩
     |succ j=>exact D j r' x v U y z
 unfold oH at h;have ag:fn.results.toList.length<=4:=by simpa using al
 have ad:fn.results=fn.results.toList.toArray:=by simp
 rw[Nn];generalize fn.results.toList=l at*
 rw[ad];have aN:∀(xs:List SV) (I:List Value),I.length=xs.length->(∀(j:Nat) (x:SV) (v:Value),xs[j]?=some x->I[j]?=some v->SR (MA κ.M fr L) L w x v)->SR (MA κ.M fr L) L w (.aN xs) (.tuple I.toArray):=fun xs I hl U=>.aN _ _ (by simpa using hl) fun j x u y hu=>U j x u y (by simpa using hu);split at h
 ·cases h
 ·rename_i x0 y;cases h;obtain⟨I,V,Z,D⟩:=ab l _ y
  match l,I,V,Z,D with
  |[r],[v],_,_,D=>
   obtain⟨g1,g2⟩:=D 0 r x v rfl rfl rfl;exact⟨v,by simp[Sem.run_bind,g1],g2⟩
 ·rename_i xs ao y;cases h;obtain⟨I,V,Z,D⟩:=ab l _ y
  match l,I,xs,V,Z,D,ag with
  |[],[],[],_,_,_,_=>exact⟨.tuple #[],by simp[Sem.run_bind],aN [] [] rfl fun j x v y=>by simp at y⟩
  |[r],[v],[x],_,_,D,_=>exact absurd rfl (ao x)
  |[r0,r1],[G,v1],[x0,x1],_,_,D,_=>
   have a0:=D 0 r0 x0 G rfl rfl rfl;have J:=D 1 r1 x1 v1 rfl rfl rfl
   exact⟨.tuple #[G,v1],by simp[Sem.run_bind,a0.1,J.1],aN [x0,x1] [G,v1] rfl fun j x v y z=>by
    match j,y,z with
    |0,y,z=>cases y;cases z;exact a0.2
    |1,y,z=>cases y;cases z;exact J.2⟩
  |[r0,r1,r2],[G,v1,v2],[x0,x1,x2],_,_,D,_=>
   have a0:=D 0 r0 x0 G rfl rfl rfl;have J:=D 1 r1 x1 v1 rfl rfl rfl;have a2:=D 2 r2 x2 v2 rfl rfl rfl
   exact⟨.tuple #[G,v1,v2],by simp[Sem.run_bind,a0.1,J.1,a2.1],aN [x0,x1,x2] [G,v1,v2] rfl fun j x v y z=>by
    match j,y,z with
    |0,y,z=>cases y;cases z;exact a0.2
    |1,y,z=>cases y;cases z;exact J.2
    |2,y,z=>cases y;cases z;exact a2.2⟩
  |[r0,r1,r2,r3],[G,v1,v2,v3],[x0,x1,x2,x3],_,_,D,_=>
   have a0:=D 0 r0 x0 G rfl rfl rfl;have J:=D 1 r1 x1 v1 rfl rfl rfl;have a2:=D 2 r2 x2 v2 rfl rfl rfl;have a3:=D 3 r3 x3 v3 rfl rfl rfl
   exact⟨.tuple #[G,v1,v2,v3],by simp[Sem.run_bind,a0.1,J.1,a2.1,a3.1],aN [x0,x1,x2,x3] [G,v1,v2,v3] rfl fun j x v y z=>by
    match j,y,z with
    |0,y,z=>cases y;cases z;exact a0.2
    |1,y,z=>cases y;cases z;exact J.2
    |2,y,z=>cases y;cases z;exact a2.2
    |3,y,z=>cases y;cases z;exact a3.2⟩
def P4{z:Fr}{L:Ls}{w:World}{r:SV}{x:AV}{v:Value}(y:ar γ κ z L w)(I:∀(j:Nat) (v:Value),κ.L j=some v->False)(hx:iN z deep r=some x)(hr:SR (MA κ.M z L) L w r v):∃L',ar γ κ [] L' w/\SR (MA κ.M [] L') L' w (.t x) v:=by
 have U:∀b,κ.M b->MA κ.M [] (fun _=>none) b:=fun b D=>⟨D,fun⟨i,v,Z,h,_⟩=>by cases h⟩;refine⟨fun _=>none,?_,.t _ _ ((nH y (A:=MA κ.M [] (fun _=>none)) (fun b D=>U b D.1) deep).1 r x v hx (fun i _ u b V J=>?_) hr)⟩
 ·exact{
   glob:=y.glob
   gn:=y.gn
   gx:=y.gx
   fresh:=y.fresh
   os:=y.os
   tape:=y.tape
   output:=y.output
   size:=y.size
   kept:=y.kept
   lim:=fun i v h=>by cases h
   new:=fun i v b Z h=>by cases h
   dis:=fun i j v v' b h=>by cases h
   hand:=fun j v h=>(I j v h).elim
   blk:=fun i Z h=>by cases h}
 ·have G:=y.lim i u V;exact U b (y.new i u b z[i] V J (List.getElem?_eq_getElem G)).2.1
def P3{b:Bool}{m:Nat}{o:Option (SV×Fr)}{r:SV}{fr':Fr}(h:qf b m o=some (r,fr')):o=some (r,fr')\/(m=0/\fr'=[]/\∃v u x,o=some (v,u)/\iN u deep v=some x/\r=.t x):=by
 unfold qf at h;split at h
 ·exact .inl h
 ·split at h
  ·cases h
  ·rename_i v u;split at h
   ·split at h
    ·rename_i x y;cases h;exact .inr ⟨rfl,rfl,v,u,x,rfl,y,rfl⟩
    ·exact .inl h
   ·exact .inl h
def ar.K4{fr:Fr}{L:Ls}{w:World}(h:ar γ κ fr L w):ar γ ⟨κ.M,κ.X,fun b=>κ.H b/\b <κ.W.heap.size,κ.W,κ.L⟩ fr L w where
 glob:=h.glob
 gn:=h.gn
 gx:=h.gx
 fresh:=h.fresh
 os:=h.os
 tape:=h.tape
 output:=h.output
 size:=h.size
 kept:=h.kept
 lim:=h.lim
 new:=fun i v b y h1 h2 h3=>by
  obtain⟨z,D,G,I⟩:=h.new i v b y h1 h2 h3;refine⟨z,D,?_,I⟩;rcases Nat.lt_or_ge b κ.W.heap.size with u|u
  ·exact G.imp (fun q=>q) fun q=>⟨q,u⟩
  ·exact .inl u
 dis:=h.dis
 hand:=h.hand
 blk:=h.blk
def ar.Qd{fr:Fr}{L:Ls}{w:World}(h:ar γ ⟨κ.M,κ.X,fun b=>κ.H b/\b <κ.W.heap.size,κ.W,κ.L⟩ fr L w):ar γ κ fr L w where
 glob:=h.glob
 gn:=h.gn
 gx:=h.gx
 fresh:=h.fresh
 os:=h.os
 tape:=h.tape
 output:=h.output
 size:=h.size
 kept:=h.kept
 lim:=h.lim
 new:=fun i v b u h1 h2 h3=>by
  obtain⟨y,z,D,G⟩:=h.new i v b u h1 h2 h3;exact⟨y,z,D.imp (fun q=>q) fun q=>q.1,G⟩
 dis:=h.dis
 hand:=h.hand
 blk:=h.blk
def HL{P:Program}{f:Nat}{args:List SV}{fr:Fr}{r:SV}{fr':Fr}(h:∀(κ:Ctx) (w:World) (us:Array Value),¬κ.H κ.W.heap.size->ar γ κ fr κ.L w->κ.W=w->us.size=args.length->(∀(j:Nat) (x:SV) (u:Value),args[j]?=some x->us[j]?=some u->SR (MA κ.M fr κ.L) κ.L w x u)->
  Calls P f us w fun e w'=>∃v L',e=.returned v/\ar γ κ fr' L' w'/\SR (MA κ.M fr' L') L' w' r v):∀(κ:Ctx) (w:World) (us:Array Value),ar γ κ fr κ.L w->κ.W=w->us.size=args.length->(∀(j:Nat) (x:SV) (u:Value),args[j]?=some x->us[j]?=some u->SR (MA κ.M fr κ.L) κ.L w x u)->
  Calls P f us w fun e w'=>∃v L',e=.returned v/\ar γ κ fr' L' w'/\SR (MA κ.M fr' L') L' w' r v:=fun κ w us z G y D=>
 (h ⟨κ.M,κ.X,fun b=>κ.H b/\b <κ.W.heap.size,κ.W,κ.L⟩ w us (fun h=>absurd h.2 (Nat.lt_irrefl _)) z.K4 G y D).mono fun _ _ ⟨v,L',h1,h2,h3⟩=>⟨v,L',h1,h2.Qd,h3⟩
def HN(hW:Wf g γ){m:Nat}(hS:ee g.P γ (cO g m))(hL:r_ g γ (dE g m)):ee g.P γ (cO g (m+1)):=fun f z fr r fr' h=>by
 unfold cO at h;split at h
 ·-- a contract
  split at h
  ·rename_i xs au;obtain⟨hk,hc⟩:=hW.ext f xs r fr' h;refine⟨hk,fun κ w J hC hw I hr=>?_⟩;obtain⟨p1,p2⟩:=rD (A:=MA κ.M [] κ.L) (L:=κ.L) (w:=w) au
   exact hc κ w J hC hw (by rw[I,p1]) fun j x u hx hu=>by
    obtain⟨s,hs⟩:=am (xs:=z) (k:=j) (by rw[p1];exact aC hx);exact p2 j s x u hs hx (hr j s u hs hu)
  ·exact hW.exh _ _ _ _ _ h
 ·rename_i ao;split at h
  ·cases h
  ·rename_i fn U;split at h
   ·rename_i c hb;have G:=hW.sS f ao;unfold qk at G;rw[U]at G;simp only[hb]at G;rw[Bool.and_eq_true,Bool.and_eq_true,Bool.not_eq_true',Nat.ble_eq]at G;obtain⟨⟨ap,an⟩,ad⟩:=G;split at h
    ·cases h
    ·rename_i ag;rw[Nat.ble_eq]at ag;refine⟨⟨fn,U,an,by rw[hb];rfl⟩,HL fun κ w J al hC hw I hr=>callsIn_wide.1 (callsIn_of_wp_marks (F:=Fence.wide) (n:=0) U hb trivial ?_)⟩
     have hA:At γ κ fn.ntmps (kR z) fr {tmps:=J++Array.replicate (fn.ntmps - J.size) undef,defers:=[]} w:=by
      refine⟨Marks.nil,by simp[I];omega,κ.L,hC,fun t=>?_⟩;show SR _ _ w (kR z t) _
      unfold kR
      cases hx:z[t]? with
      |none=>exact .dead _
      |some x=>
       have ht:t <J.size:=by rw[I];exact aC hx
       have h1:=hr t x J[t] hx (Array.getElem?_eq_getElem ht);show SR _ _ w x ((J++_).getD t undef)
       rw[Array.getD_eq_getD_getElem?,Array.getElem?_append_left ht,Array.getElem?_eq_getElem ht];exact h1
     have done:∀{o:Out} {e:Env} {q:Fr},bq g f (cO g m) (dE g m) c (kR z) fr=some (o,e,q)->(o=.normal\/o=.ret)->qf (g.tre f) fr.length (nl fr.length (oH g.P e q (fP fn.results.toList)) q)=some (r,fr')->Code.wpIn Fence.wide 0 g.P c (bodyPostM Fence.wide 0 g.P fn fun e w'=>∃v L',e=.returned v/\ar γ κ fr' L' w'/\SR (MA κ.M fr' L') L' w' r v) {tmps:=J++Array.replicate (fn.ntmps - J.size) undef,defers:=[]} w:=fun{o e q} D ho ab=>by
      refine wpIn_mono (uV hW.mixed hS hL hW.seq c _ _ _ _ _ D ap κ none 0 _ w (.inl ⟨rfl,al⟩) hA) fun ex a w' ⟨he,⟨⟨Ds,n1,n2,n3⟩,_⟩,h3,L,h4,h5⟩=>?_
      have av:LeavesInM Fence.wide 0 g.P fn a.tmps (fun e w'=>∃v L',e=.returned v/\ar γ κ fr' L' w'/\SR (MA κ.M fr' L') L' w' r v) a.defers .returning w':=by
       rw[n2];refine yN Ds w' n1 n3 fun aA hq=>?_;rcases P3 ab with y|⟨ax,rfl,r1,ex,x,y,htx,rfl⟩
       ·unfold nl at y;split at y
        ·rename_i r0 V;obtain⟨v,hv,Z⟩:=zQ (h4.lq hq) (fun t=>(h5 t).lq hq) V ad;obtain⟨L',f1,f2⟩:=yk (h4.lq hq) (fun j u hj=>hC.lim j u hj) y Z;exact⟨v,hv,v,L',rfl,f1,f2⟩
        ·cases y
       ·unfold nl at y;split at y
        ·rename_i r0 V;obtain⟨v,hv,Z⟩:=zQ (h4.lq hq) (fun t=>(h5 t).lq hq) V ad;obtain⟨L',f1,f2⟩:=yk (h4.lq hq) (fun j u hj=>hC.lim j u hj) y Z;obtain⟨L2,f3,f4⟩:=P4 f1 (fun j u hj=>by have:=hC.lim j u hj;omega) htx f2;exact⟨v,hv,v,L2,rfl,f3,f4⟩
        ·cases y
      rcases ho with rfl|rfl <;>(subst he;exact av)
     split at h
     ·rename_i e q D;exact done D (.inl rfl) h
     ·rename_i e q D;exact done D (.inr rfl) h
     ·cases h
   ·cases h
def ue{F:Fence}{dn:Nat}{P:Program}{Q:Exit->Act->World->Prop}{a:Act}{w:World}{c:Code}(I:Nat->Act->World->Prop)(G:Nat)(U:I G a w)
  (round:∀n a w,I n a w->c.wpIn F dn P (Exit.then (fun z w'=>∃y,y <n/\I y z w') Q) a w):(Code.loop c).wpIn F dn P Q a w:=by
 refine wpIn_loop (fun a w=>∃n,I n a w) (fun a w=>leastOf (fun n=>I n a w)) ⟨G,U⟩ ?_;intro a w J;refine wpIn_mono (round _ a w (leastOf_spec J).1) ?_;intro e z w' v
 cases e with
 |normal=>
  obtain⟨y,D,u⟩:=v;exact show(∃n,I n z w')/\leastOf (fun n=>I n z w')<leastOf (fun n=>I n a w) from⟨⟨y,u⟩,Nat.lt_of_le_of_lt ((leastOf_spec ⟨y,u⟩).2 y u) D⟩
 |exit id=>exact v
 |goto l=>exact v
 |ret=>exact v
 |panic V=>exact v
 |outgrown=>exact v
def Lt(hW:Wf g γ){m:Nat}(V:∀k,k <m->ee g.P γ (cO g k))(U:∀k,k <m->r_ g γ (dE g k)):r_ g γ (dE g m):=fun f b env fr o v fr' h n D κ rd dn a w z y=>by
 refine ue (fun k a w=>k<=m/\∃env fr,dE g k f b env fr=some (o,v,fr')/\At γ κ n env fr a w) m ⟨Nat.le_refl _,env,fr,h,y⟩ fun k a w ⟨hk,env,fr,h,y⟩=>?_
 cases k with
 |zero=>unfold dE at h;cases h
 |succ k=>
  unfold dE at h;split at h
  ·rename_i e r I;refine wpIn_mono (uV hW.mixed (V k (by omega)) (U k (by omega)) hW.seq b _ _ _ _ _ I D κ rd dn a w z y) fun ex Z w' ⟨G,u⟩=>?_;subst G;exact⟨k,Nat.lt_succ_self k,by omega,_,_,h,u.head y.handed⟩
  ·rename_i J;refine wpIn_mono (uV hW.mixed (V k (by omega)) (U k (by omega)) hW.seq b _ _ _ _ _ h D κ rd dn a w z y) fun ex Z w' ⟨G,u⟩=>?_;subst G
   cases o with
   |normal=>exact absurd h (J _ _)
   |exit id=>exact⟨rfl,u⟩
   |ret=>exact⟨rfl,u⟩
def sound(hW:Wf g γ):∀m,ee g.P γ (cO g m)/\r_ g γ (dE g m):=fun m=>by
 induction m using Nat.strongRecOn with
 |_ m ih=>
  have y:=Lt hW (fun k u=>(ih k u).1) (fun k u=>(ih k u).2)
  cases m with
  |zero=>exact⟨(fun f v fr r fr' h=>by unfold cO at h;cases h),y⟩
  |succ m=>exact⟨HN hW (ih m (Nat.lt_succ_self m)).1 (ih m (Nat.lt_succ_self m)).2,y⟩
end
def QD{P:Program}{o:Oper}{c:Operand}{args:Array Operand}{tys:Array TypeId}{a:Act}{w:World}{l m:Nat}{R:Ending->World->Prop}{K:Act->World->Prop}{Q:Exit->Act->World->Prop}
  (ho:o.op=.call ⟨.value c,args,tys⟩)(hc:a.eval c=.func (.yield l) #[] #[])(hy:∀m,YieldAt (Fw none) m P l (args.map a.eval) w R)(z:∀e w',R e w'->∃v,e=.returned v/\K (a.put o.dst v) w'):o.wpIn (Fw none) m P a w K Q:=by
 refine⟨fun _ _=>trivial,?_⟩;obtain⟨fn,u,asg,body,h1,h2⟩:=hy (m - 1)
 have e:(o.semAt (Fw none).round a.eval).run P w=.ok (.round l fn u asg body) w:=by
  show(o.semAt none a.eval).run P w=_
  simp[Oper.semAt,execOp,ho,resolve,Deferred.ofValue,hc,invoke,Sem.run_bind,pure,Sem.run,callFunc,h1]
 rw[e];refine⟨(fun h=>by cases h),h2.mono ?_⟩;intro y w' G;obtain⟨v,rfl,D⟩:=z y w' G;exact D
def ji(C C':CallF):Prop:=∀f u fr x,C f u fr=some x->C' f u fr=some x
def xm(Lp Lp':LoopF):Prop:=∀f b env fr x,Lp f b env fr=some x->Lp' f b env fr=some x
section
variable {g:Cfg} {C C':CallF} {Lp Lp':LoopF}
def HH(h:ji C C'){G:Bool}{fr:Fr}{f:Nat}{args:List SV}{x:eH}(hx:iy g C G fr f args=some x):iy g C' G fr f args=some x:=by
 unfold iy at hx⊢;split at hx
 ·cases hx
 ·rename_i xs D
  try simp only[D]
  split at hx
  ·rename_i z
   try simp only[z]
   split at hx
   ·cases hx
   ·rename_i r I v;rw[h _ _ _ _ v];exact hx
  ·rename_i J U z
   try simp only[z]
   split at hx
   ·cases hx
   ·simp only at hx⊢;split at hx
    ·cases hx
    ·rename_i bs u
     try simp only[u]
     split at hx
     ·cases hx
     ·rename_i y
      try simp only[y]
      split at hx
      ·cases hx
      ·rename_i r fr' v;rw[h _ _ _ _ v];exact hx
def Ch(h:ji C C'){u:Bool}{env:Env}{fr:Fr}{op:Op}{x:eH}(hx:bT g C u env fr op=some x):bT g C' u env fr op=some x:=by
 unfold bT at hx⊢;split at hx <;>first|exact hx|skip
 ·unfold mX at hx⊢;split at hx
  ·cases hx
  ·rename_i v
   try simp only[v]
   exact HH h hx
def mJ(h:ji C C'){d:Option (List Nat)}{i:Nat}{env:Env}{fr:Fr}{op:Op}{x:eH}(hx:step g C d i env fr op=some x):step g C' d i env fr op=some x:=by
 have u:∀{x},bX g C env fr op=some x->bX g C' env fr op=some x:=fun{x} hx=>by
  unfold bX at hx⊢;split at hx
  ·exact Ch h hx
  ·exact hx
 have v:∀{x},gU g C env fr op=some x->gU g C' env fr op=some x:=fun{x} hx=>by
  unfold gU at hx⊢;split at hx
  ·exact Ch h hx
  ·exact hx
 unfold step at hx⊢;split at hx
 ·exact u hx
 ·split at hx
  ·exact u hx
  ·exact v hx
theorem mn(h:ji C C'){d:Option (List Nat)}{ops:Array Oper}{x:Env×Fr}:∀(l:List Oper) (i:Nat) (env:Env) (fr:Fr),dQ g C d ops i l env fr=some x->dQ g C' d ops i l env fr=some x
 |[],_,_,_,u=>u
 |o::l,i,env,fr,u=>by
  unfold dQ at u⊢;split at u
  ·split at u
   ·rename_i v;rw[mJ h v];exact mn h l _ _ _ u
   ·cases u
  ·split at u
   ·cases u
   ·rename_i y
    try simp only[y]
    split at u
    ·rename_i v;rw[mJ h v];exact mn h l _ _ _ u
    ·cases u
   ·rename_i y
    try simp only[y]
    exact mn h l _ _ _ u
theorem ni(h:ji C C'){effs:List Nat}{ops:Array Oper}{x:Env×Fr}:∀(l:List Oper) (i:Nat) (env:Env) (fr:Fr),f_ g C effs ops i l env fr=some x->f_ g C' effs ops i l env fr=some x
 |[],_,_,_,u=>u
 |o::l,i,env,fr,u=>by
  unfold f_ at u⊢;split at u
  ·cases u
  ·rename_i z
   try simp only[z]
   split at u
   ·split at u
    ·rename_i v;rw[mJ h v];exact ni h l _ _ _ u
    ·cases u
   ·split at u
    ·cases u
    ·rename_i y
     try simp only[y]
     split at u
     ·rename_i v;rw[mJ h v];exact ni h l _ _ _ u
     ·cases u
    ·rename_i y
     try simp only[y]
     exact ni h l _ _ _ u
def I9(h:ji C C'){k:Nat}{ops:Array Oper}{env:Env}{fr:Fr}{x:Env×Fr}(hx:sI g C k ops env fr=some x):sI g C' k ops env fr=some x:=by
 unfold sI at hx⊢;split at hx
 ·cases hx
 ·rename_i z
  try simp only[mn h _ _ _ _ z]
  split at hx
  ·cases hx
  ·rename_i y
   try simp only[y]
   split at hx
   ·cases hx
   ·rename_i v
    try simp only[v]
    split at hx
    ·cases hx
    ·rename_i u
     try simp only[u]
     exact mn h _ _ _ _ hx
def I_(h:ji C C'){effs:List Nat}{ops:Array Oper}{env:Env}{fr:Fr}{x:Env×Fr}(hx:pm g C effs ops env fr=some x):pm g C' effs ops env fr=some x:=by
 unfold pm at hx⊢;split at hx
 ·cases hx
 ·split at hx
  ·cases hx
  ·rename_i u;simp only[ni h _ _ _ _ u];exact hx
def Jc(h:ji C C'){env:Env}{fr:Fr}{op:Op}{x:eH}(hx:bX g C env fr op=some x):bX g C' env fr op=some x:=mJ (d:=none) (i:=0) h hx
def Ja(h:ji C C'){m:Nat}{effs:List Nat}{ops:Array Oper}{env:Env}{fr:Fr}{x:Env×Fr}(hx:qM g C m effs ops env fr=some x):qM g C' m effs ops env fr=some x:=by
 unfold qM at hx⊢;split at hx
 ·cases hx
 ·rename_i D;simp only[ni h _ _ _ _ D];split at hx
  ·cases hx
  ·rename_i z
   try simp only[z]
   split at hx
   ·cases hx
   ·rename_i v
    try simp only[v]
    split at hx
    ·cases hx
    ·rename_i u
     try simp only[Jc h u]
     split at hx
     ·rename_i y
      try simp only[y]
      exact ni h _ _ _ _ hx
     ·cases hx
def Jb(h:ji C C'){f id:Nat}{ops:Array Oper}{u:Bool}{env:Env}{fr:Fr}{x:Env×Fr}(hx:nj g f C id ops u env fr=some x):nj g f C' id ops u env fr=some x:=by
 unfold nj at hx⊢
 cases u with
 |false=>
  simp only at hx⊢;split at hx
  ·rename_i v
   try simp only[v]
   exact mn h _ _ _ _ hx
  ·rename_i v
   try simp only[v]
   exact I9 h hx
 |true=>
  simp only at hx⊢;split at hx
  ·rename_i v
   try simp only[v]
   exact mn h _ _ _ _ hx
  ·rename_i v
   try simp only[v]
   exact ni h _ _ _ _ hx
  ·rename_i v
   try simp only[v]
   exact I_ h hx
  ·rename_i v
   try simp only[v]
   exact Ja h hx
  ·cases hx
def zW{lv:Option (List Nat)}{A B A' u:Env->Fr->Option (Out×Env×Fr)}(z:∀e r x,A e r=some x->A' e r=some x)(D:∀e r x,B e r=some x->u e r=some x){v:List Nat}{y:List AV}{env:Env}{fr:Fr}{x:Out×Env×Fr}(h:lR lv A B v y env fr=some x):lR lv A' u v y env fr=some x:=by
 unfold lR at h⊢;split at h
 ·cases h
 rename_i h1
 try simp only[h1]
 split at h
 ·cases h
 rename_i h2
 try simp only[h2]
 split at h
 ·rename_i h3;rw[z _ _ _ h3];simp only;split at h
  ·cases h
  ·rename_i h4;rw[D _ _ _ h4];exact h
 ·cases h
theorem zX{lv:Option (List Nat)}{A B A' D:Env->Fr->Option (Out×Env×Fr)}(u:∀e r x,A e r=some x->A' e r=some x)(v:∀e r x,B e r=some x->D e r=some x){G:List Nat}{wh:Bool}:∀(yss:List (List AV)) (env:Env) (fr:Fr) (x:Out×Env×Fr),kV lv A B G wh yss env fr=some x->kV lv A' D G wh yss env fr=some x
 |[],env,fr,x,h=>h
 |y::I,env,fr,x,h=>by
  unfold kV at h⊢;split at h
  ·rename_i h1;rw[zW u v h1];exact zX u v I _ _ _ h
  ·rename_i z;rw[zW u v h];obtain⟨o,e,r⟩:=x
   cases o with
   |normal=>exact absurd h (z _ _)
   |exit id=>rfl
   |ret=>rfl
def jy(h:ji C C')(I:xm Lp Lp'){f:Nat}:∀(c:Code) (env:Env) (fr:Fr) (x:Out×Env×Fr),bq g f C Lp c env fr=some x->bq g f C' Lp' c env fr=some x:=by
 intro c
 induction c with
 |region id ops G=>
  intro env fr x u;unfold bq at u⊢;split at u
  ·rename_i e r V;rw[Jb h V];exact u
  ·cases u
 |seq a b v y=>
  intro env fr x u;unfold bq at u⊢;split at u
  ·rename_i e r J;rw[v _ _ _ J];exact y _ _ _ u
  ·rename_i z;rw[v _ _ _ u];obtain⟨o,e,r⟩:=x
   cases o with
   |normal=>exact absurd u (z _ _)
   |exit id=>rfl
   |ret=>rfl
 |cond c a b v y=>
  intro env fr x u;unfold bq at u⊢;split at u
  ·exact v _ _ _ u
  ·exact y _ _ _ u
  ·cases u
 |block id b D=>
  intro env fr x u;unfold bq at u⊢;split at u
  ·rename_i i e r U;rw[D _ _ _ U];exact u
  ·rename_i z;rw[D _ _ _ u];obtain⟨o,e,r⟩:=x
   cases o with
   |normal=>rfl
   |exit id=>exact absurd u (z _ _ _)
   |ret=>rfl
 |loop b D=>intro env fr x u;unfold bq at u⊢;exact I _ _ _ _ _ u
 |rangeFunc op Z asg body v y=>
  intro env fr x u;unfold bq at u⊢;split at u
  ·rename_i h1
   try simp only[h1]
   split at u
   ·cases u
   ·rename_i h2
    try simp only[h2]
    split at u
    ·cases u
    ·rename_i h3
     try simp only[h3]
     exact zX (fun e r x q=>v e r x q) (fun e r x q=>y e r x q) _ _ _ _ u
  ·cases u
 |_=>intro env fr x u;unfold bq at u⊢;exact u
theorem zd:∀n,ji (cO g n) (cO g (n+1))/\xm (dE g n) (dE g (n+1))
 |0=>⟨(fun f v fr x h=>by unfold cO at h;cases h),(fun f b env fr x h=>by unfold dE at h;cases h)⟩
 |n+1=>by
  obtain⟨h1,h2⟩:=zd n;refine⟨fun f v fr x h=>?_,fun f b env fr x h=>?_⟩
  ·unfold cO at h⊢;split at h
   ·exact h
   ·split at h
    ·cases h
    ·rename_i z
     try simp only[z]
     split at h
     ·rename_i G
      try simp only[G]
      split at h
      ·cases h
      ·rename_i y
       try simp only[y]
       split at h
       ·rename_i u;rw[jy h1 h2 _ _ _ _ u];exact h
       ·rename_i u;rw[jy h1 h2 _ _ _ _ u];exact h
       ·cases h
     ·cases h
  ·unfold dE at h⊢;split at h
   ·rename_i u;rw[jy h1 h2 _ _ _ _ u];exact h2 _ _ _ _ _ h
   ·rename_i D;rw[jy h1 h2 _ _ _ _ h];obtain⟨o,e,r⟩:=x
    cases o with
    |normal=>exact absurd h (D _ _)
    |exit id=>rfl
    |ret=>rfl
def fI{n m:Nat}(h:n<=m):ji (cO g n) (cO g m):=by
 induction m with
 |zero=>
   obtain rfl:n=0:=by omega
   exact fun _ _ _ _ h=>h
 |succ m y=>
  rcases Nat.lt_or_ge m n with h1|h1
  ·obtain rfl:n=m+1:=by omega
   exact fun _ _ _ _ h=>h
  ·exact fun f u fr x v=>(zd m).1 _ _ _ _ (y h1 _ _ _ _ v)
def my{n m:Nat}(h:n<=m):xm (dE g n) (dE g m):=by
 induction m with
 |zero=>
   obtain rfl:n=0:=by omega
   exact fun _ _ _ _ _ h=>h
 |succ m v=>
  rcases Nat.lt_or_ge m n with h1|h1
  ·obtain rfl:n=m+1:=by omega
   exact fun _ _ _ _ _ h=>h
  ·exact fun f b env fr x u=>(zd m).2 _ _ _ _ _ (v h1 _ _ _ _ _ u)
end
def Cl(g:Cfg)(f:Nat)(args:List SV)(fr:Fr)(r:SV)(fr':Fr):Prop:=∃n,cO g n f args fr=some (r,fr')
def ac(g:Cfg)(f:Nat)(c:Code)(env:Env)(fr:Fr)(K:Out->Env->Fr->Prop):Prop:=∃n o e r,bq g f (cO g n) (dE g n) c env fr=some (o,e,r)/\K o e r
def az(g:Cfg)(f:Nat)(b:Code)(env:Env)(fr:Fr)(K:Out->Env->Fr->Prop):Prop:=∃n o e r,dE g n f b env fr=some (o,e,r)/\K o e r
def aa(g:Cfg)(d:Option (List Nat))(ops:Array Oper)(i:Nat)(l:List Oper)(env:Env)(fr:Fr)(K:Env->Fr->Prop):Prop:=∃n e r,dQ g (cO g n) d ops i l env fr=some (e,r)/\K e r
def ay(g:Cfg)(effs:List Nat)(ops:Array Oper)(i:Nat)(l:List Oper)(env:Env)(fr:Fr)(K:Env->Fr->Prop):Prop:=∃n e r,f_ g (cO g n) effs ops i l env fr=some (e,r)/\K e r
def af(g:Cfg)(d:Option (List Nat))(i:Nat)(env:Env)(fr:Fr)(op:Op)(x:SV)(fr':Fr)(ks:List Nat):Prop:=∃n,step g (cO g n) d i env fr op=some (x,fr',ks)
def lZ(P:Env->Fr->Prop)(K:Out->Env->Fr->Prop):Out->Env->Fr->Prop
 | .normal,e,r=>P e r
 |o,e,r=>K o e r
def mh(id:Nat)(K:Out->Env->Fr->Prop):Out->Env->Fr->Prop
 | .exit i,e,r=>match Nat.beq i id with
  |true=>K .normal e r
  |false=>K (.exit i) e r
 |o,e,r=>K o e r
section
variable {g:Cfg} {f:Nat} {env:Env} {fr:Fr} {K:Out->Env->Fr->Prop}
def ac.post{c:Code}{K':Out->Env->Fr->Prop}(h:ac g f c env fr K)(u:∀o e r,K o e r->K' o e r):ac g f c env fr K':=by
 obtain⟨n,o,e,r,h1,h2⟩:=h;exact⟨n,o,e,r,h1,u _ _ _ h2⟩
theorem ac.skip(h:K .normal env fr):ac g f .skip env fr K:=⟨0,.normal,env,fr,by unfold bq;rfl,h⟩
theorem ac.exit{id:Nat}(h:K (.exit id) env fr):ac g f (.exit id) env fr K:=⟨0,.exit id,env,fr,by unfold bq;rfl,h⟩
theorem ac.ret(h:K .ret env fr):ac g f .ret env fr K:=⟨0,.ret,env,fr,by unfold bq;rfl,h⟩
theorem ac.seq{a b:Code}(h:ac g f a env fr (lZ (fun e r=>ac g f b e r K) K)):ac g f (.seq a b) env fr K:=by
 obtain⟨n,o,e,r,h1,h2⟩:=h
 cases o with
 |normal=>
  obtain⟨m,o,u,v,h3,h4⟩:=h2;refine⟨max n m,o,u,v,?_,h4⟩;unfold bq;rw[jy (fI (Nat.le_max_left n m)) (my (Nat.le_max_left n m)) _ _ _ _ h1];exact jy (fI (Nat.le_max_right n m)) (my (Nat.le_max_right n m)) _ _ _ _ h3
 |exit id=>exact⟨n,_,e,r,by unfold bq;rw[h1],h2⟩
 |ret=>exact⟨n,_,e,r,by unfold bq;rw[h1],h2⟩
theorem ac.cond{c:Operand}{a b:Code}{t:Bool}(hc:rd env c=.t (.bool t))(ha:t=true->ac g f a env fr K)(hb:t=false->ac g f b env fr K):ac g f (.cond c a b) env fr K:=by
 cases t with
 |true=>obtain⟨n,o,e,r,h1,h2⟩:=ha rfl;exact⟨n,o,e,r,by unfold bq;rw[hc];exact h1,h2⟩
 |false=>obtain⟨n,o,e,r,h1,h2⟩:=hb rfl;exact⟨n,o,e,r,by unfold bq;rw[hc];exact h1,h2⟩
theorem ac.block{id:Nat}{b:Code}(h:ac g f b env fr (mh id K)):ac g f (.block id b) env fr K:=by
 obtain⟨n,o,e,r,h1,h2⟩:=h
 cases o with
 |normal=>exact⟨n,_,e,r,by unfold bq;rw[h1],h2⟩
 |ret=>exact⟨n,_,e,r,by unfold bq;rw[h1],h2⟩
 |exit i=>
  unfold mh at h2;simp only at h2;split at h2
  ·rename_i u;exact⟨n,.normal,e,r,by unfold bq;rw[h1];simp only[u],h2⟩
  ·rename_i u;exact⟨n,.exit i,e,r,by unfold bq;rw[h1];simp only[u],h2⟩
def ac.text{id:Nat}{l:List Oper}(hm:g.eff f id=[])(h:aa g none l.toArray 0 l env fr fun e r=>K .normal e r):ac g f (.region id l.toArray false) env fr K:=by
 obtain⟨n,e,r,h1,h2⟩:=h;exact⟨n,.normal,e,r,by unfold bq nj;simp only[hm];rw[h1],h2⟩
def ac.drawn{id:Nat}{l:List Oper}(hm:qH (g.eff f id)=0)(h:aa g (some (g.eff f id)) l.toArray 0 l env fr fun e r=>K .normal e r):ac g f (.region id l.toArray true) env fr K:=by
 obtain⟨n,e,r,h1,h2⟩:=h;exact⟨n,.normal,e,r,by unfold bq nj;simp only[hm];rw[h1],h2⟩
def ac.sD{id:Nat}{l:List Oper}(hm:qH (g.eff f id)=1)(h:ay g (g.eff f id) l.toArray 0 l env fr fun e r=>K .normal e r):ac g f (.region id l.toArray true) env fr K:=by
 obtain⟨n,e,r,h1,h2⟩:=h;exact⟨n,.normal,e,r,by unfold bq nj;simp only[hm];rw[h1],h2⟩
def ac.uR{id:Nat}{l:List Oper}{N:Nat}{r:List Nat}(hm:qH (g.eff f id)=4)(he:sU (g.eff f id)=N::r)(h:ay g (N::r) l.toArray 0 l env fr fun e r=>pj fr.length (xS (l.take N)) e r=true/\K .normal e r):ac g f (.region id l.toArray true) env fr K:=by
 obtain⟨n,e,r,h1,h2,h3⟩:=h;refine⟨n,.normal,e,r,?_,h3⟩;unfold bq nj;simp only[hm,he];unfold pm;simp only[h1,h2]
def RA(g:Cfg)(effs:List Nat)(ops:Array Oper)(m:Nat)(o:Oper)(l:List Oper)(env:Env)(fr:Fr)(K:Env->Fr->Prop):Prop:=∃n x r ks,bX g (cO g n) env fr o.op=some (x,r,ks)/\yG effs ops m env fr o ks=true/\ay g effs ops (m+1) l (aE (dR ks env) o.dst x) r K
def ac.Rj{id m:Nat}{l y l2:List Oper}{effs:List Nat}{o:Oper}(hm:qH (g.eff f id)=5)(he:sU (g.eff f id)=effs)(hk:CW (g.eff f id)=m)(ht:l.take m=y)(hd:l.drop m=o::l2)(hg:o.guard=none)(h:ay g effs l.toArray 0 y env fr fun e r=>RA g effs l.toArray m o l2 e r fun e r=>K .normal e r):ac g f (.region id l.toArray true) env fr K:=by
 subst he hk ht;obtain⟨n,e,r,h1,u,x,I,ks,h2,h3,v,z,G,h4,D⟩:=h;refine⟨max n (max u v),.normal,z,G,?_,D⟩;unfold bq nj;simp only[hm];unfold qM;simp only[ni (fI (Nat.le_max_left n _)) _ _ _ _ h1,hd,hg,Jc (fI (Nat.le_trans (Nat.le_max_left u v) (Nat.le_max_right n _))) h2,h3,ni (fI (Nat.le_trans (Nat.le_max_right u v) (Nat.le_max_right n _))) _ _ _ _ h4]
theorem ac.loop{b:Code}{p:Env×Fr}(hp:gK (g.own f (cX b)) env fr=p){q:Env×Fr}(hq:head (g.lv f (cX b)) p.2.length p.1 p.2=q)(h:az g f b q.1 q.2 K):ac g f (.loop b) env fr K:=by
 subst hp hq;obtain⟨n,o,e,r,h1,h2⟩:=h;exact⟨n,o,e,r,by unfold bq;exact h1,h2⟩
def az.step{b:Code}(h:ac g f b env fr (lZ (fun e r=>az g f b (head (g.lv f (cX b)) fr.length e r).1 (head (g.lv f (cX b)) fr.length e r).2 K) K)):az g f b env fr K:=by
 obtain⟨n,o,e,r,h1,h2⟩:=h
 cases o with
 |normal=>
  obtain⟨m,o,u,v,h3,h4⟩:=h2;refine⟨max n m+1,o,u,v,?_,h4⟩;unfold dE;rw[jy (fI (Nat.le_max_left n m)) (my (Nat.le_max_left n m)) _ _ _ _ h1];exact my (Nat.le_max_right n m) _ _ _ _ _ h3
 |exit id=>exact⟨n+1,_,e,r,by unfold dE;rw[h1],h2⟩
 |ret=>exact⟨n+1,_,e,r,by unfold dE;rw[h1],h2⟩
def Cl.ap{args:List SV}{r:SV}{fr':Fr}{fn:Func}{c:Code}{y:List (Nat×Option Nat)}(hok:g.ok f=true)(hf:g.P.funcs[f]?=some fn)(hb:fn.body=some c)(v:fP fn.results.toList=y)(u:Nat.ble args.length fn.ntmps=true)
  (h:ac g f c (kR args) fr fun o e q=>(o=.normal\/o=.ret)/\nl fr.length (oH g.P e q y) q=some (r,fr'))(ht:g.tre f=false:=by rfl):Cl g f args fr r fr':=by
 subst v;obtain⟨n,o,e,q,h1,h2,h3⟩:=h;refine⟨n+1,?_⟩;unfold cO;simp only[hok,hf,hb,u,h1,ht,qf];rcases h2 with rfl|rfl <;>exact h3
def Cl.gr{args:List SV}{fn:Func}{c:Code}{y:List (Nat×Option Nat)}{x:AV}(hok:g.ok f=true)(hf:g.P.funcs[f]?=some fn)(hb:fn.body=some c)(v:fP fn.results.toList=y)(u:Nat.ble args.length fn.ntmps=true)
  (h:ac g f c (kR args) [] fun o e q=>(o=.normal\/o=.ret)/\qf true 0 (nl 0 (oH g.P e q y) q)=some (.t x,[]))(ht:g.tre f=true:=by rfl):Cl g f args [] (.t x) []:=by
 subst v;obtain⟨n,o,e,q,h1,h2,h3⟩:=h;refine⟨n+1,?_⟩;unfold cO;simp only[hok,hf,hb,u,h1,ht,List.length_nil];rcases h2 with rfl|rfl <;>exact h3
variable {d:Option (List Nat)} {ops:Array Oper} {i:Nat} {K':Env->Fr->Prop}
def aa.nil(h:K' env fr):aa g d ops i [] env fr K':=⟨0,env,fr,rfl,h⟩
def aa.u{l:List Oper}{dst:Option Tmp}{op:Op}{ty:TypeId}{pos:String}{after:Array Edge}{x:SV}{fr':Fr}{ks:List Nat}(hx:af g d i env fr op x fr' ks)(h:aa g d ops (i+1) l (aE (dR ks env) dst x) fr' K'):aa g d ops i (⟨dst,op,ty,pos,after,none⟩::l) env fr K':=by
 obtain⟨n,h1⟩:=hx;obtain⟨m,e,r,h2,h3⟩:=h;refine⟨max n m,e,r,?_,h3⟩;unfold dQ;simp only;rw[mJ (fI (Nat.le_max_left n m)) h1];exact mn (fI (Nat.le_max_right n m)) _ _ _ _ h2
def aa.gd{l:List Oper}{dst:Option Tmp}{op:Op}{ty:TypeId}{pos:String}{after:Array Edge}{j:Nat}{u W:Bool}{x:SV}(hW:cG ops env j u=some W)(hx:W=true->af g d i env fr op x fr [])(h:aa g d ops (i+1) l (aE env dst (sy W x)) fr K'):aa g d ops i (⟨dst,op,ty,pos,after,some (j,u)⟩::l) env fr K':=by
 obtain⟨m,e,r,h2,h3⟩:=h
 cases W with
 |false=>
  refine⟨m,e,r,?_,h3⟩;unfold dQ;simp only[hW];exact h2
 |true=>
  obtain⟨n,h1⟩:=hx rfl;refine⟨max n m,e,r,?_,h3⟩;unfold dQ;simp only[hW];rw[mJ (fI (Nat.le_max_left n m)) h1];exact mn (fI (Nat.le_max_right n m)) _ _ _ _ h2
def aa.gt{l:List Oper}{dst:Option Tmp}{op:Op}{ty:TypeId}{pos:String}{after:Array Edge}{j:Nat}{u:Bool}{x:SV}{fr':Fr}{ks:List Nat}(hW:cG ops env j u=some true)(hx:af g d i env fr op x fr' ks)(h:aa g d ops (i+1) l (aE (dR ks env) dst (.aT x)) fr' K'):aa g d ops i (⟨dst,op,ty,pos,after,some (j,u)⟩::l) env fr K':=by
 obtain⟨m,e,r,h2,h3⟩:=h;obtain⟨n,h1⟩:=hx;refine⟨max n m,e,r,?_,h3⟩;unfold dQ;simp only[hW];rw[mJ (fI (Nat.le_max_left n m)) h1];exact mn (fI (Nat.le_max_right n m)) _ _ _ _ h2
def aa.gf{l:List Oper}{dst:Option Tmp}{op:Op}{ty:TypeId}{pos:String}{after:Array Edge}{j:Nat}{u:Bool}(hW:cG ops env j u=some false)(h:aa g d ops (i+1) l (aE env dst .no) fr K'):aa g d ops i (⟨dst,op,ty,pos,after,some (j,u)⟩::l) env fr K':=by
 obtain⟨m,e,r,h2,h3⟩:=h;refine⟨m,e,r,?_,h3⟩;unfold dQ;simp only[hW];exact h2
variable {effs:List Nat}
def ay.nil(h:K' env fr):ay g effs ops i [] env fr K':=⟨0,env,fr,rfl,h⟩
def ay.u{l:List Oper}{dst:Option Tmp}{op:Op}{ty:TypeId}{pos:String}{after:Array Edge}{x:SV}{fr':Fr}(hfl:sR effs ops env i=true)(hx:af g (some effs) i env fr op x fr' [])(h:ay g effs ops (i+1) l (aE env dst x) fr' K'):ay g effs ops i (⟨dst,op,ty,pos,after,none⟩::l) env fr K':=by
 obtain⟨n,h1⟩:=hx;obtain⟨m,e,r,h2,h3⟩:=h;refine⟨max n m,e,r,?_,h3⟩;unfold f_;simp only[hfl];rw[mJ (fI (Nat.le_max_left n m)) h1];exact ni (fI (Nat.le_max_right n m)) _ _ _ _ h2
def ay.gt{l:List Oper}{dst:Option Tmp}{op:Op}{ty:TypeId}{pos:String}{after:Array Edge}{j:Nat}{u:Bool}{x:SV}{fr':Fr}(hfl:sR effs ops env i=true)(hW:cG ops env j u=some true)(hx:af g (some effs) i env fr op x fr' [])(h:ay g effs ops (i+1) l (aE env dst (.aT x)) fr' K'):ay g effs ops i (⟨dst,op,ty,pos,after,some (j,u)⟩::l) env fr K':=by
 obtain⟨n,h1⟩:=hx;obtain⟨m,e,r,h2,h3⟩:=h;refine⟨max n m,e,r,?_,h3⟩;unfold f_;simp only[hfl,hW];rw[mJ (fI (Nat.le_max_left n m)) h1];exact ni (fI (Nat.le_max_right n m)) _ _ _ _ h2
def ay.gf{l:List Oper}{dst:Option Tmp}{op:Op}{ty:TypeId}{pos:String}{after:Array Edge}{j:Nat}{u:Bool}(hfl:sR effs ops env i=true)(hW:cG ops env j u=some false)(h:ay g effs ops (i+1) l (aE env dst .no) fr K'):ay g effs ops i (⟨dst,op,ty,pos,after,some (j,u)⟩::l) env fr K':=by
 obtain⟨m,e,r,h2,h3⟩:=h;refine⟨m,e,r,?_,h3⟩;unfold f_;simp only[hfl,hW];exact h2
def ay.Rn{m:Nat}{l:List Oper}{dst:Option Tmp}{op:Op}{ty:TypeId}{pos:String}{after:Array Edge}{x:SV}{fr':Fr}{ks:List Nat}(hx:af g (some effs) m env fr op x fr' ks)(hk:yG effs ops m env fr ⟨dst,op,ty,pos,after,none⟩ ks=true)(h:ay g effs ops (m+1) l (aE (dR ks env) dst x) fr' K'):RA g effs ops m ⟨dst,op,ty,pos,after,none⟩ l env fr K':=by
 obtain⟨n,h1⟩:=hx;refine⟨n,x,fr',ks,?_,hk,h⟩
 have u:bI effs m=true:=by
  unfold yG at hk;rw[Bool.and_eq_true]at hk;exact hk.1
 unfold step at h1;simp only[u]at h1;exact h1
def af.r{op:Op}{x:SV}{fr':Fr}{ks:List Nat}(h:∀C,step g C d i env fr op=some (x,fr',ks)):af g d i env fr op x fr' ks:=⟨0,h _⟩
end
end Go.Proofs.YtcgdbhlnkificaaGreatDoor
