/- The tree evaluator,10: new blocks,blocks written,blocks. No condition. -/
import Derived.Test.YtcgdbhlnkificaaGreatDoorTA
import Derived.RangeFuncLeaves
import Derived.RangeFuncRecord
set_option linter.all false
namespace Go.Proofs.YtcgdbhlnkificaaGreatDoor
open Go.RowKit
structure Tr (M:Nat->Prop) (fr:Fr) (L:Ls) (w:World) (fr':Fr) (L':Ls) (w':World) (ks:List Nat):Prop where
 size:w.heap.size<=w'.heap.size
 same:∀b,b <w.heap.size->MA M fr L b->MA M fr' L' b/\w'.heap[b]?=w.heap[b]?
 gY:∀i v,i∉ks->L i=some v->L' i=some v
section
variable {γ:Glob} {κ:Ctx} {M:Nat->Prop} {fr fr':Fr} {L L':Ls} {w w':World} {ks:List Nat}
def Tr.vr(h:Tr M fr L w fr' L' w' ks){x:AV}{v:Value}(hv:VR (MA M fr L) w x v):VR (MA M fr' L') w' x v:=VR.on h.size h.same hv
theorem Tr.sub(h:Tr M fr L w fr' L' w' ks){x:SV}{v:Value}(hv:SR (MA M fr L) L w x v):SR (MA M fr' L') L' w' (x.sub (dD ks)) v:=
 SR.sub _ h.size h.same (fun i j v y u=>by obtain⟨rfl,z⟩:=yH y;exact h.gY _ v z u) hv
def Tr.sr(h:Tr M fr L w fr' L' w' []){x:SV}{v:Value}(hv:SR (MA M fr L) L w x v):SR (MA M fr' L') L' w' x v:=SR.on h.size h.same (fun i v u=>h.gY i v (by simp) u) hv
theorem Tr.env(h:Tr M fr L w fr' L' w' ks){env:Env}{t:Nat}{v:Value}(hv:SR (MA M fr L) L w (env t) v):SR (MA M fr' L') L' w' (dR ks env t) v:=by
 unfold dR;split
 ·exact h.sr hv
 ·exact h.sub hv
def Tr.refl:Tr M fr L w fr L w ks:=⟨Nat.le_refl _,fun _ _ h=>⟨h,rfl⟩,fun _ _ _ h=>h⟩
theorem Tr.trans{u:Fr}{y:Ls}{D:World}(h:Tr M fr L w fr' L' w' ks)(k:Tr M fr' L' w' u y D ks):Tr M fr L w u y D ks:=
 ⟨Nat.le_trans h.size k.size,fun b z G=>⟨(k.same b (Nat.lt_of_lt_of_le z h.size) (h.same b z G).1).1,((k.same b (Nat.lt_of_lt_of_le z h.size) (h.same b z G).1).2).trans (h.same b z G).2⟩,fun i v I J=>k.gY i v I (h.gY i v I J)⟩
def Tr.Qq{u:List Nat}(h:Tr M fr L w fr' L' w' ks)(hk:∀i∈ks,i∈u):Tr M fr L w fr' L' w' u:=⟨h.size,h.same,fun i v z y=>h.gY i v (fun h=>z (hk i h)) y⟩
def Tr.below(hb:Below w.heap.size w w'):Tr M fr L w fr L w' ks:=⟨hb.size,fun b u v=>⟨v,hb.block b u⟩,fun _ _ _ h=>h⟩
def G3(u:ar γ κ fr L w){n:Nat}(hn:fr.length=n):QW n L (fun j=>j)=L:=by
 funext j;unfold QW;split
 ·rfl
 ·cases h:L j with
  |none=>rfl
  |some v=>have:=u.lim j v h;omega
def ar.nq(y:ar γ κ fr L w)(l:List Nat):ar γ κ (freeze fr l) L w/\Tr κ.M fr L w (freeze fr l) L w []/\∀b,MA κ.M fr L b->MA κ.M (freeze fr l) L b:=by
 obtain⟨h1,h2,h3⟩:=y.tI (freeze fr l) (fun j=>j) some (fun j k _ _ h=>h) (fun i j v h I=>by
   cases h;exact⟨by rw[qR];exact y.lim _ v I,rfl⟩) (fun j J h=>by
   rw[sT]at h
   cases z:fr[j]? with
   |none=>rw[z]at h;cases h
   |some u=>rw[z]at h;cases h;exact⟨u,rfl,Hv u _⟩) (fun j v h=>by
   obtain⟨u,h1,_⟩:=y.hand j v h;exact⟨u,Q1 (bI l j) u,h1,by rw[sT,h1];rfl,rfl,fun D=>by rw[JB]at D;exact D⟩)
 rw[G3 y (qR l fr).symm]at h1 h2;exact⟨h1,⟨Nat.le_refl _,fun b _ G=>⟨h2 b G,rfl⟩,fun _ _ _ h=>h⟩,h2⟩
theorem ar.trim(I:ar γ κ fr L w)(h:Nat)(hh:∀j v,κ.L j=some v->j <h):∃L',ar γ κ (trim h fr) L' w/\∀x v,SR (MA κ.M fr L) L w x v->SR (MA κ.M (trim h fr) L') L' w (x.sub (lF h)) v:=by
 unfold Go.Proofs.YtcgdbhlnkificaaGreatDoor.trim;split
 ·rename_i Z;rw[Nat.ble_eq]at Z;exact⟨L,I,fun x v G=>SR.sub _ (Nat.le_refl _) (fun b _ U=>⟨U,rfl⟩) (fun i j v u J=>by obtain⟨rfl,_⟩:=DB u;exact J) G⟩
 ·have D:∀(j:Nat) (y:Lb),((fr.take h).map (Lb.sub (lF h)))[j]?=some y->j <h/\∃z,fr[j]?=some z/\y=z.sub (lF h):=fun j y u=>by
   rw[List.getElem?_map,List.getElem?_take]at u;split at u
   ·rename_i V
    cases hf:fr[j]? with
    |none=>rw[hf]at u;cases u
    |some z=>rw[hf]at u;cases u;exact⟨V,z,rfl,rfl⟩
   ·cases u
  obtain⟨h1,h2,h3⟩:=I.tI ((fr.take h).map (Lb.sub (lF h))) (fun j=>j) (lF h) (fun j k _ _ h=>h) (fun i j v J G=>by
    obtain⟨rfl,J⟩:=DB J;exact⟨by rw[List.length_map,List.length_take];have:=I.lim _ v G;omega,rfl⟩) (fun j y u=>by
    obtain⟨_,z,h4,rfl⟩:=D j y u;exact⟨z,h4,nR _ _⟩) (fun j v u=>by
    obtain⟨z,h4,_⟩:=I.hand j v u;exact⟨z,z.sub (lF h),h4,by rw[List.getElem?_map,List.getElem?_take,if_pos (hh j v u),h4];rfl,rfl,fun ht=>by rw[Lb.wE]at ht;exact ht⟩)
  exact⟨_,h1,fun x v G=>SR.sub _ (Nat.le_refl _) (fun b _ U=>⟨h2 b U,rfl⟩) h3 G⟩
def cK(L:Ls)(n:Nat)(v:Value):Ls:=fun i=>if i=n then some v else L i
def cb{n:Nat}{v:Value}:cK L n v n=some v:=if_pos rfl
def fW{n i:Nat}{v:Value}(h:i≠n):cK L n v i=L i:=if_neg h
def ar.ED(y:ar γ κ fr L w)(hb:Below w.heap.size w w')(J:Lb)(v:Value)(hv:∀b,Bk v b->w.heap.size<=b/\b <w'.heap.size)
  (ab:Tr κ.M fr L w (fr++[J]) (cK L fr.length v) w' []->jV (MA κ.M (fr++[J]) (cK L fr.length v)) (cK L fr.length v) w' fr.length J):ar γ κ (fr++[J]) (cK L fr.length v) w'/\Tr κ.M fr L w (fr++[J]) (cK L fr.length v) w' []:=by
 have ad:∀i u,L i=some u->i≠fr.length:=fun i u z=>by have:=y.lim i u z;omega
 have D:∀i u,L i=some u->cK L fr.length v i=some u:=fun i u z=>by rw[fW (ad i u z)];exact z
 have ag:∀b,b <w.heap.size->MA κ.M fr L b->MA κ.M (fr++[J]) (cK L fr.length v) b:=fun b I hm=>⟨hm.1,fun⟨i,u,G,h1,h2,h3,h4⟩=>by
  by_cases z:i=fr.length
  ·subst z;rw[cb]at h1;cases h1;have:=(hv b h2).1;omega
  ·rw[fW z]at h1;rw[List.getElem?_append_left (y.lim i u h1)]at h3;exact hm.2 ⟨i,u,G,h1,h2,h3,h4⟩⟩
 have U:Tr κ.M fr L w (fr++[J]) (cK L fr.length v) w' []:=⟨hb.size,fun b I hm=>⟨ag b I hm,hb.block b I⟩,fun i u _ z=>D i u z⟩;have an:(fr++[J]).length=fr.length+1:=by simp
 refine⟨⟨γ.stays _ _ y.glob fun k V=>hb.block k (Nat.lt_of_lt_of_le V (Nat.le_trans y.gn y.size)),y.gn,y.gx,y.fresh,hb.os.trans y.os,hb.tape.trans y.tape,hb.output.trans y.output,Nat.le_trans y.size hb.size,fun k V hx=>(hb.block k (Nat.lt_of_lt_of_le V y.size)).trans (y.kept k V hx),fun i u h=>?_,fun i u b G h1 h2 h3=>?_,fun i j u u' b h1 h2 h3 h4=>?_,fun j u h=>?_,fun i G h=>?_⟩,U⟩
 ·by_cases z:i=fr.length
  ·omega
  ·rw[fW z]at h;have:=y.lim i u h;omega
 ·by_cases z:i=fr.length
  ·subst z;rw[cb]at h1;cases h1;obtain⟨Z,a2⟩:=hv b h2;exact⟨a2,y.fresh b (Nat.le_trans y.size Z),.inl (Nat.le_trans y.size Z),fun _=>.inl (Nat.le_trans y.size Z)⟩
  ·rw[fW z]at h1;rw[List.getElem?_append_left (y.lim i u h1)]at h3;obtain⟨Z,a2,a0,a3⟩:=y.new i u b G h1 h2 h3;exact⟨Nat.lt_of_lt_of_le Z hb.size,a2,a0,a3⟩
 ·have I:∀i u,i≠fr.length->cK L fr.length v i=some u->Bk u b->b <w.heap.size:=fun i u z h1 h2=>by
   rw[fW z]at h1;have al:=y.lim i u h1;exact(y.new i u b fr[i] h1 h2 (List.getElem?_eq_getElem al)).1
  by_cases z:i=fr.length <;>by_cases hj:j=fr.length
  ·omega
  ·subst z;rw[cb]at h1;cases h1;have:=I j u' hj h2 h4;have:=(hv b h3).1;omega
  ·subst hj;rw[cb]at h2;cases h2;have:=I i u z h1 h3;have:=(hv b h4).1;omega
  ·rw[fW z]at h1;rw[fW hj]at h2;exact y.dis i j u u' b h1 h2 h3 h4
 ·obtain⟨G,h1,h2⟩:=y.hand j u h;exact⟨G,by rw[List.getElem?_append_left (aC h1)];exact h1,fun ht=>D j u (h2 ht)⟩
 ·by_cases z:i <fr.length
  ·rw[List.getElem?_append_left z]at h;have h1:=y.blk i G h;refine py (σ:=some) hb.size U.same (fun i j u hj hu=>by cases hj;exact D i u hu) (D i) (fun u k hu V=>hb.block k (y.new i u k G hu V h).1) (fun T sz u n us _ hr=>hr.below hb) (Bs G) h1
  ·have:i=fr.length:=by have:=aC h;omega
   subst this;rw[List.getElem?_append_right (Nat.le_refl _),Nat.sub_self]at h;cases h;exact ab U
def ar.push(z:ar γ κ fr L w)(hb:Below w.heap.size w w')(u:Lb)(v:Value)(hv:∀b,bv v=some b->w.heap.size<=b/\b <w'.heap.size)
  (y:Tr κ.M fr L w (fr++[u]) (cK L fr.length v) w' []->jV (MA κ.M (fr++[u]) (cK L fr.length v)) (cK L fr.length v) w' fr.length u)(hpv:eB v=true:=by rfl):ar γ κ (fr++[u]) (cK L fr.length v) w'/\Tr κ.M fr L w (fr++[u]) (cK L fr.length v) w' []:=
 z.ED hb u v (fun b h=>hv b (h.of hpv)) y
def ar.BJ(y:ar γ κ fr L w){i:Nat}{v v':Value}{lb lb':Lb}(hi:fr[i]?=some lb)(aY:lb.ro=false)(hL:L i=some v)(aG:w'.os=w.os)(aM:w'.tape=w.tape)(aN:w'.output=w.output)(ao:w.heap.size<=w'.heap.size)(ab:∀k,k <w.heap.size->¬Bk v k->w'.heap[k]?=w.heap[k]?)(Z:∀b,Bk v' b->Bk v b\/w.heap.size<=b)
  (aT:∀b,Bk v' b->b <w'.heap.size)(hks:v'=v\/(i∈ks/\lb'.tch=true))(aA:lb'.tch=false->lb.tch=false)
  (ax:Tr κ.M fr L w ((e_ ks fr).set i lb') (cK L i v') w' ks->jV (MA κ.M ((e_ ks fr).set i lb') (cK L i v')) (cK L i v') w' i lb'):
  ar γ κ ((e_ ks fr).set i lb') (cK L i v') w'/\Tr κ.M fr L w ((e_ ks fr).set i lb') (cK L i v') w' ks:=by
 have av:i <fr.length:=aC hi;have an:((e_ ks fr).set i lb')[i]?=some lb':=List.getElem?_set_self (by rw[oo];exact av);have G:∀k,k≠i->((e_ ks fr).set i lb')[k]?=(fr[k]?).map (Lb.sub (dD ks)):=fun k z=>by rw[List.getElem?_set_ne (Ne.symm z),vx]
 have al:∀b,Bk v b->Own fr L b:=fun b I=>⟨i,v,lb,hL,I,hi,aY⟩
 have ad:∀k u,k∉ks->L k=some u->cK L i v' k=some u:=fun k u z V=>by
  by_cases e:k=i
  ·subst e;rw[hL]at V;cases V;rcases hks with h|h
   ·rw[cb,h]
   ·exact absurd h.1 z
  ·rw[fW e];exact V
 have aF:∀b,b <w.heap.size->MA κ.M fr L b->MA κ.M ((e_ ks fr).set i lb') (cK L i v') b:=fun b I U=>⟨U.1,fun⟨k,u,ap,h1,h2,h3,h4⟩=>by
  by_cases e:k=i
  ·subst e;rw[cb]at h1;cases h1;rcases Z b h2 with h|h
   ·exact U.2 (al b h)
   ·omega
  ·rw[fW e]at h1;rw[G k e]at h3
   cases J:fr[k]? with
   |none=>rw[J]at h3;cases h3
   |some D=>rw[J]at h3;cases h3;rw[Lb.oS]at h4;exact U.2 ⟨k,u,D,h1,h2,J,h4⟩⟩
 have aX:∀b,MA κ.M fr L b->¬Bk v b:=fun b U e=>U.2 (al b e);have au:Tr κ.M fr L w ((e_ ks fr).set i lb') (cK L i v') w' ks:=⟨ao,fun b I U=>⟨aF b I U,ab b I (aX b U)⟩,ad⟩;have ag:∀k u b,k≠i->L k=some u->Bk u b->¬Bk v b:=fun k u b z h1 h2 e=>z (y.dis k i u v b h1 hL h2 e);have hO:=fun b I=>y.own (al b I);refine⟨⟨γ.stays _ _ y.glob fun k z=>ab k (Nat.lt_of_lt_of_le z (Nat.le_trans y.gn y.size)) fun e=>?_,y.gn,y.gx,y.fresh,aG.trans y.os,aM.trans y.tape,aN.trans y.output,Nat.le_trans y.size ao,fun k z hx=>?_,fun k u h=>?_,fun k u b ap h1 h2 h3=>?_,fun k m u u' b h1 h2 h3 h4=>?_,fun j u h=>?_,fun k ap h=>?_⟩,au⟩
 ·obtain⟨_,_,h⟩:=hO k e;rcases h with h|h
  ·have:=y.gn;omega
  ·have:=(y.gx k h).1;omega
 ·rw[ab k (Nat.lt_of_lt_of_le z y.size) fun e=>?_]
  ·exact y.kept k z hx
  ·obtain⟨_,_,h⟩:=hO k e;rcases h with h|h
   ·omega
   ·exact hx h
 ·rw[List.length_set,oo];by_cases e:k=i
  ·subst e;exact av
  ·rw[fW e]at h;exact y.lim k u h
 ·by_cases e:k=i
  ·subst e;rw[cb]at h1;cases h1;refine⟨aT b h2,?_⟩;rcases Z b h2 with h|h
   ·obtain⟨_,a2,a3⟩:=hO b h;obtain⟨_,_,a0,_⟩:=y.new k v b lb hL h hi;exact⟨a2,a0,fun _=>a3⟩
   ·have:=Nat.le_trans y.size h;exact⟨y.fresh _ this,.inl this,fun _=>.inl this⟩
  ·rw[fW e]at h1;rw[G k e]at h3
   cases J:fr[k]? with
   |none=>rw[J]at h3;cases h3
   |some D=>
    rw[J]at h3;cases h3;obtain⟨a1,a2,a0,a3⟩:=y.new k u b D h1 h2 J;exact⟨Nat.lt_of_lt_of_le a1 ao,a2,a0,fun hr=>a3 (by rw[Lb.oS]at hr;exact hr)⟩
 ·have aB:∀k u,k≠i->L k=some u->Bk u b->Bk v' b->False:=fun k u z h1 h2 h3=>by
   rcases Z b h3 with h|h
   ·exact ag k u b z h1 h2 h
   ·have aR:=y.lim k u h1;have:=(y.new k u _ fr[k] h1 h2 (List.getElem?_eq_getElem aR)).1;omega
  by_cases z:k=i <;>by_cases U:m=i
  ·omega
  ·subst z;rw[cb]at h1;cases h1;rw[fW U]at h2;exact(aB m u' U h2 h4 h3).elim
  ·subst U;rw[cb]at h2;cases h2;rw[fW z]at h1;exact(aB k u z h1 h3 h4).elim
  ·rw[fW z]at h1;rw[fW U]at h2;exact y.dis k m u u' b h1 h2 h3 h4
 ·obtain⟨ap,h1,h2⟩:=y.hand j u h;by_cases e:j=i
  ·subst e;rw[hi]at h1;cases h1;refine⟨lb',an,fun ht=>?_⟩;have:=h2 (aA ht);rw[hL]at this;cases this;rcases hks with h|h
   ·rw[cb,h]
   ·rw[h.2]at ht;cases ht
  ·exact⟨ap.sub (dD ks),by rw[G j e,h1];rfl,fun ht=>by rw[Lb.wE]at ht;rw[fW e];exact h2 ht⟩
 ·by_cases e:k=i
  ·subst e;rw[an]at h;cases h;exact ax au
  ·rw[G k e]at h
   cases J:fr[k]? with
   |none=>rw[J]at h;cases h
   |some D=>
    rw[J]at h;cases h;refine py (i:=k) (σ:=dD ks) ao au.same (fun p q u hq V=>by obtain⟨rfl,hq⟩:=yH hq;exact ad _ u hq V) (fun u V=>by rw[fW e];exact V) (fun u b V I=>ab b (y.new k u b D V I J).1 (ag k u b e V I)) (fun T sz u n us V hr=>hr.same fun b I=>ab b (y.new k u b D V (.one I) J).1 (ag k u b e V (.one I))) (nR _ _) (y.blk k D J)
def ar.nU(U:ar γ κ fr L w){i:Nat}{v v':Value}{J lb':Lb}(hi:fr[i]?=some J)(I:J.ro=false)(V:L i=some v)(hg:w.grownBy w' (bv v))(y:bv v'=bv v\/bv v'=some w.heap.size\/bv v'=none)
  (G:∀b,bv v'=some b->b <w'.heap.size)(hks:v'=v\/(i∈ks/\lb'.tch=true))(D:lb'.tch=false->J.tch=false)
  (z:Tr κ.M fr L w ((e_ ks fr).set i lb') (cK L i v') w' ks->jV (MA κ.M ((e_ ks fr).set i lb') (cK L i v')) (cK L i v') w' i lb')(hpv:eB v'=true:=by rfl):
  ar γ κ ((e_ ks fr).set i lb') (cK L i v') w'/\Tr κ.M fr L w ((e_ ks fr).set i lb') (cK L i v') w' ks:=
 U.BJ hi I V hg.os hg.tape hg.output hg.size (fun k Z hn=>hg.block k Z fun e=>hn (.one e.symm)) (fun b u=>by
  have u:=u.of hpv;rcases y with h|h|h
  ·exact .inl (.one (h ▸ u))
  ·rw[h]at u;cases u;exact .inr (Nat.le_refl _)
  ·rw[h]at u;cases u) (fun b u=>G b (u.of hpv)) hks D z
end
section
variable {P:Program} {γ:Glob} {κ:Ctx} {fr:Fr} {L:Ls} {w:World} {A:Nat->Prop}
def wa(hC:ar γ κ fr L w)(hA:∀b,MA κ.M fr L b->A b){i sz:Nat}{ro tch:Bool}{es:List (List AV)}{v:Value}(hb:fr[i]?=some (.row ro tch sz es))(hL:L i=some v)(J:∀b,bv v=some b->A b):VR A w (.arr es) v:=by
 obtain⟨T,us,y,z,_,V,hr⟩:=fR hC hb hL;rcases y with⟨I,_,a,rfl⟩|y
 ·rw[List.eq_nil_of_length_eq_zero I];exact .bS _ _
 ·rcases y.2 with⟨rfl,I⟩|⟨g,cap,ad,rfl,_,hg,G,ag,al,an⟩
  ·rw[List.eq_nil_of_length_eq_zero I];exact .bS _ _
  ·rcases es with _|⟨e0,et⟩
   ·exact .bS _ _
   ·have U:∃c,cap=c+1:=⟨cap - 1,by simp at G;omega⟩;obtain⟨c,rfl⟩:=U;have Z:g <w.heap.size:=(Array.getElem?_eq_some_iff.1 hg).1;refine .arr g 0 (c+1) sz _ (fun k j=>us.getD (k*sz+j) undef) (by simp) z G Z (J g rfl) V (fun k j hk hj=>?_) (fun k j cs x hk hj=>?_)
    ·have D:k*sz+j <us.length:=by
      rw[y.1];have:(k+1)*sz<=(e0::et).length*sz:=Nat.mul_le_mul_right _ hk;rw[Nat.add_mul]at this;omega
     have:=zv y (List.getElem?_eq_getElem D);rw[List.getD_eq_getElem?_getD,List.getElem?_eq_getElem D,Nat.zero_add];exact this
    ·obtain⟨u,hu,ab⟩:=hr k j cs x hk hj;rw[List.getD_eq_getElem?_getD,hu];exact VR.on (Nat.le_refl _) (fun b _ hb=>⟨hA b hb,rfl⟩) ab
def Mf{sz:Nat}{es:List (List AV)}(h:∀(k:Nat) (cs:List AV),es[k]?=some cs->cs.length=sz):pW sz es=true:=by
 cases es with
 |nil=>rfl
 |cons e es=>simp[pW,h 0 e rfl]
def Lz(Z:ar γ κ fr L w)(hA:∀b,MA κ.M fr L b->A b){i sz a n:Nat}{es:List (List AV)}{v:Value}(h:kQ fr i sz a n=some es)(hs:SR (MA κ.M fr L) L w (.lv i sz a n) v)(hi:∀u b,L i=some u->Bk u b->A b):VR A w (.arr es) v:=by
 obtain⟨ro,ab,D,hb,h1,rfl⟩:=vD h;obtain⟨b,m,c,G,rfl⟩:=ns hs;have U:=wa Z hA hb G fun b I=>hi _ b G (.one I);rcases Nat.eq_zero_or_pos n with V|V
 ·subst V;rw[List.take_zero];exact .bS _ _
 ·obtain⟨_,_,_,_,⟨q',c',e⟩,J,_⟩:=fR Z hb G;cases e
  have y:D.length<=c:=by
   generalize hq:Value.slice (some ⟨b,0,none⟩) D.length c=z at U
   cases U with
   |bS=>simp at h1;omega
   |arr b o c' sz' _ us hne hlen y=>cases hq;exact y
  have:=Bl (l:=a) (h:=a+n) U (by omega) h1 (Mf J);rw[if_neg (by omega),List.drop_take,Nat.add_sub_cancel_left]at this;simpa[iv]using this
theorem nH(hC:ar γ κ fr L w)(hA:∀b,MA κ.M fr L b->A b):∀n:Nat,
  (∀(s:SV) (x:AV) (v:Value),iN fr n s=some x->(∀i∈nD fr n s,∀u b,L i=some u->Bk u b->A b)->SR (MA κ.M fr L) L w s v->VR A w x v)/\
  (∀(cs:List SV) (xs:List AV),mL fr n cs=some xs->(∀i∈oI fr n cs,∀u b,L i=some u->Bk u b->A b)->cs.length=xs.length/\∀(j:Nat) (s:SV) (x:AV) (v:Value),cs[j]?=some s->xs[j]?=some x->SR (MA κ.M fr L) L w s v->VR A w x v)
 |0=>⟨(fun s x v h=>by unfold iN at h;cases h),(fun cs xs h=>by unfold mL at h;cases h)⟩
 |n+1=>by
  obtain⟨an,Z⟩:=nH hC hA n;have I:∀{x:AV} {v:Value},VR (MA κ.M fr L) w x v->VR A w x v:=fun h=>VR.on (Nat.le_refl _) (fun b _ U=>⟨hA b U,rfl⟩) h;refine⟨fun s x v h D hs=>?_,fun cs xs h D=>?_⟩
  ·unfold iN at h;unfold nD at D;split at h
   ·cases h;cases hs with|t _ _ h=>exact I h
   ·cases h;cases hs;exact .bS _ _
   ·cases h;exact I (gy hs (.inr (.inl rfl)))
   ·cases h;exact I (gy hs (.inr (.inr (.inl rfl))))
   ·rename_i i;split at h
    ·rename_i ro ao sz es U;cases h;obtain⟨J,_⟩:=kH hs;exact wa hC hA U J fun b ad=>D i (by simp) v b J (.one ad)
    ·cases h
   ·split at h
    ·rename_i es he;cases h;exact Lz hC hA he hs fun u b J ad=>D _ (by simp) u b J ad
    ·cases h
   ·rename_i i j;split at h
    ·rename_i ro T cs U;split at h
     ·rename_i y ys ht;cases h;obtain⟨g,J,rfl⟩:=lB hs;simp only[U]at D;obtain⟨h1,h2⟩:=Z _ _ ht fun k V=>D k (by simp[V]);obtain⟨g',us,e1,e2,e3,e4⟩:=hC.box i ro T cs U;rw[J]at e1;cases e1
      have al:∀k,k <(y::ys).length->us[j+k]?=some (us.getD (j+k) undef):=fun k V=>by
       have:j+k <us.size:=by rw[e3];rw[List.length_drop]at h1;omega
       rw[Array.getD_eq_getD_getElem?,Array.getElem?_eq_getElem this];rfl
      refine .tp g j _ (fun k=>us.getD (j+k) undef) (by simp) (Array.getElem?_eq_some_iff.1 e2).1 (D i (by simp) _ g J (.one rfl)) (fun k V=>?_) (fun k x G=>?_)
      ·simp only[World.cell?,e2];exact al k V
      ·have V:=aC G;obtain⟨s,z⟩:=am (xs:=cs.drop j) (k:=k) (by rw[h1];exact V);refine h2 k s x _ z G ?_;rw[List.getElem?_drop]at z;exact e4 _ s _ z (al k V)
     ·cases h
    ·cases h
   ·rename_i cs;split at h
    ·rename_i xs ht;cases h
     cases hs with
     |agg _ us hl hr=>
      obtain⟨h1,h2⟩:=Z _ _ ht D;refine .agg _ _ (by rw[hl,h1]) fun j x u G hu=>?_;obtain⟨s,z⟩:=am (xs:=cs) (k:=j) (by rw[h1];exact aC G);exact h2 j s x u z G (hr j s u z hu)
    ·cases h
   ·rename_i cs;split at h
    ·rename_i xs ht;cases h
     cases hs with
     |aN _ us hl hr=>
      obtain⟨h1,h2⟩:=Z _ _ ht D;refine .aN _ _ (by rw[hl,h1]) fun j x u G hu=>?_;obtain⟨s,z⟩:=am (xs:=cs) (k:=j) (by rw[h1];exact aC G);exact h2 j s x u z G (hr j s u z hu)
    ·cases h
   ·rename_i f nf cs;split at h
    ·rename_i xs ht;cases h
     cases hs with
     |fn _ _ fs us hl hr=>
      obtain⟨h1,h2⟩:=Z _ _ ht D;refine .fn _ _ _ _ (by rw[hl,h1]) fun j x u G hu=>?_;obtain⟨s,z⟩:=am (xs:=cs) (k:=j) (by rw[h1];exact aC G);exact h2 j s x u z G (hr j s u z hu)
    ·cases h
   ·rename_i i;split at h
    ·rename_i ro ks vs U;split at h
     ·rename_i xs ht;cases h
      cases hs with
      |lm _ r J=>
       simp only[U]at D;obtain⟨h1,h2⟩:=Z _ _ ht fun k V=>D k (by simp[V]);obtain⟨r',ag,ab,e1,e2,e3,e4,e5,e6,_⟩:=hC.blk i _ U;rw[J]at e1;cases e1;refine .mp r ks xs ag ab (Array.getElem?_eq_some_iff.1 e2).1 (D i (by simp) _ r J (.one rfl)) e2 e3 (by rw[e4,h1]) (fun j x u G hu=>I (e5 j x u G hu)) fun j x u G hu=>?_;obtain⟨s,z⟩:=am (xs:=vs) (k:=j) (by rw[h1];exact aC G);exact h2 j s x _ z G (e6 j s u z hu)
     ·cases h
    ·cases h
   ·rename_i i p;split at h
    ·rename_i ro y U
     cases hs with
     |lo _ _ t v J hv hp=>
      obtain⟨v',t',e1,e2⟩:=hC.blk i _ U;rw[J]at e1;cases e1;obtain⟨v2,t2,e3,e4,e5⟩:=e2.at_ h;obtain rfl:=e4.hd e3 hv;exact e4.vr fun b U=>D i (by simp) _ b J (e5 b U)
    ·cases h
   ·cases h
  ·cases cs with
   |nil=>unfold mL at h;cases h;exact⟨rfl,fun j s x v hs=>by simp at hs⟩
   |cons c cs=>
    unfold mL at h;unfold oI at D;split at h
    ·rename_i x ys h1 h2;cases h;obtain⟨a1,a2⟩:=Z _ _ h2 fun k V=>D k (by simp[V]);refine⟨by simp[a1],fun j s y v hs hy hv=>?_⟩
     cases j with
     |zero=>cases hs;cases hy;exact an _ _ v h1 (fun k V=>D k (by simp[V])) hv
     |succ j=>exact a2 j s y v (by simpa using hs) (by simpa using hy) hv
    ·cases h
theorem qd(I:ar γ κ fr L w)(G:∀b,MA κ.M fr L b->A b):∀(cs:List SV) (xs:List AV),cJ fr cs=some xs->(∀i∈br fr cs,∀u b,L i=some u->Bk u b->A b)->cs.length=xs.length/\∀(j:Nat) (s:SV) (x:AV) (v:Value),cs[j]?=some s->xs[j]?=some x->SR (MA κ.M fr L) L w s v->VR A w x v
 |[],xs,h,_=>by unfold cJ at h;cases h;exact⟨rfl,fun j s x v hs=>by simp at hs⟩
 |c::cs,xs,h,z=>by
  unfold cJ at h;unfold br at z;split at h
  ·cases h
  ·rename_i x h1;split at h
   ·cases h
   ·rename_i Z h2;cases h;obtain⟨V,a2⟩:=qd I G cs Z h2 fun k D=>z k (by simp[D]);refine⟨by simp[V],fun j s y v hs U J=>?_⟩
    cases j with
    |zero=>cases hs;cases U;exact(nH I G deep).1 _ _ v h1 (fun k D=>z k (by simp[D])) J
    |succ j=>exact a2 j s y v (by simpa using hs) (by simpa using U) J
def oe(z:ar γ κ fr L w){l:List Nat}:∀i∈l,∀u b,L i=some u->Bk u b->MA κ.M (freeze fr l) L b:=fun i V u b I J=>by
 have D:=z.lim i u I;refine⟨(z.new i u b fr[i] I J (List.getElem?_eq_getElem D)).2.1,fun⟨j,v,Z,h1,h2,h3,h4⟩=>?_⟩;have G:=z.dis j i v u b h1 I h2 J;subst G;rw[sT,qV.2 V]at h3
 cases U:fr[j]? with
 |none=>rw[U]at h3;cases h3
 |some y=>
  rw[U]at h3;cases h3;have:(Q1 true y).ro=true:=Ot y;rw[this]at h4;cases h4
def dM(P:Program)(γ:Glob)(env:Env)(fr:Fr)(o:Oper)(x:SV)(fr':Fr)(ks:List Nat):Prop:=
 ∀(κ:Ctx) (L:Ls) (a:Act) (w:World),ar γ κ fr L w->(∀y∈o.op.operands,SR (MA κ.M fr L) L w (dp env y) (a.eval y))->cN P o a w fun v w'=>∃L',Tr κ.M fr L w fr' L' w' ks/\ar γ κ fr' L' w'/\SR (MA κ.M fr' L') L' w' x v
def ut.ok{env:Env}{o:Oper}{x:SV}(h:ut P γ fr env o x):dM P γ env fr o x fr []:=fun κ L a w y u=>(h κ L a w y u).mono fun v w' ⟨z,D⟩=>⟨L,Tr.below z,y.later z,D⟩
def Dl{L':Ls}{w':World}{i g:Nat}{T:TypeId}{us:Array Value}{cs:List SV}{ro:Bool}(v:L' i=some (.pointer (some ⟨g,0,none⟩)))(hh:w'.heap[g]?=some (.cells us T (0,0)))(hl:us.size=cs.length)(hr:∀(j:Nat) (x:SV) (u:Value),cs[j]?=some x->us[j]?=some u->SR A L' w' x u):jV A L' w' i (.box ro T cs):=⟨g,us,v,hh,hl,hr⟩
def DY{env:Env}{o:Oper}{T:TypeId}{cs:List SV}(h:∀(κ:Ctx) (L:Ls) (a:Act) (w:World),ar γ κ fr L w->(∀y∈o.op.operands,SR (MA κ.M fr L) L w (rd env y) (a.eval y))->∃us:Array Value,(execOp a.eval o).run P w=.ok (.value (.pointer (some ⟨w.heap.size,0,none⟩))) (w.alloc (.cells us T))/\us.size=cs.length/\∀(j:Nat) (x:SV) (u:Value),cs[j]?=some x->us[j]?=some u->SR (MA κ.M fr L) L w x u):
  dM P γ env fr o (.lp fr.length 0) (fr++[.box false T cs]) []:=fun κ L a w I G=>by
 obtain⟨us,h1,h2,h3⟩:=h κ L a w I fun y Z=>cu (G y Z);have D:Below w.heap.size w (w.alloc (.cells us T)):=(Below.refl _ _).alloc (Nat.le_refl _) _;obtain⟨v,z⟩:=I.push D (.box false T cs) (.pointer (some ⟨w.heap.size,0,none⟩)) (fun b J=>by cases J;exact⟨Nat.le_refl _,by simp⟩) fun z=>Dl cb (by show(w.heap.push (.cells us T))[w.heap.size]?=_;exact Array.getElem?_push_size) h2 fun j x u V U=>z.sr (h3 j x u V U);exact .nK h1 ⟨_,z,v,.lp _ 0 _ cb⟩
def Hi{env:Env}{dst:Option Tmp}{ty:TypeId}{pos:String}{after:Array Edge}{g:Option (Nat×Bool)}{T:TypeId}{zs:List SV}(hz:nM P T=some zs):dM P γ env fr ⟨dst,.alloc T,ty,pos,after,g⟩ (.lp fr.length 0) (fr++[.box false T zs]) []:=DY fun κ L a w J G=>by
 unfold nM at hz
 cases y:P.info? T with
 |none=>rw[y]at hz;cases hz
 |some i=>
  rw[y,Option.bind_some]at hz
  cases v:i.zero with
  |none=>rw[v]at hz;cases hz
  |some z=>
   rw[v]at hz;cases hz;refine⟨z.cells,by simp[execOp,Instr.alloc,Sem.run_bind,Ac y v,newVar,newRow,newObj,pure,Sem.run],by simp,fun j x u D I=>?_⟩;rw[List.getElem?_map,Array.getElem?_toList,I]at D;cases D;exact j6 u
def Hy{env:Env}{dst:Option Tmp}{ty:TypeId}{pos:String}{after:Array Edge}{g:Option (Nat×Bool)}{T:TypeId}{y:Operand}(h:(bw (rd env y)).all du=true):dM P γ env fr ⟨dst,.box T y,ty,pos,after,g⟩ (.lp fr.length 0) (fr++[.box false T (bw (rd env y))]) []:=DY fun κ L a w D u=>by
 obtain⟨v,z⟩:=qB (u y (by simp[Op.operands])) (List.all_eq_true.1 h);exact⟨(a.eval y).cells,by simp[execOp,Instr.box,Sem.run_bind,newVar,newRow,newObj,pure,Sem.run],v.symm,z⟩
end
def fb(w:World)(b:Nat)(us:Array Value)(T:TypeId):World:={w with heap:=w.heap.setIfInBounds b (.cells us T (0,0))}
def tO{w:World}{b:Nat}{us:Array Value}{T:TypeId}(h:b <w.heap.size):(fb w b us T).heap[b]?=some (.cells us T (0,0)):=by
 unfold fb;exact Array.getElem?_setIfInBounds_self_of_lt h
def FE{w:World}{b k:Nat}{us:Array Value}{T:TypeId}(h:k≠b):(fb w b us T).heap[k]?=w.heap[k]?:=by
 unfold fb;exact Array.getElem?_setIfInBounds_ne (Ne.symm h)
def Aj{w:World}{b:Nat}{us:Array Value}{T:TypeId}:(fb w b us T).heap.size=w.heap.size:=by simp[fb]
def wk(w:World)(b:Nat)(us:Array Value)(T:TypeId):w.grownBy (fb w b us T) (some b):=⟨rfl,rfl,rfl,by rw[Aj];exact Nat.le_refl _,fun k _ u=>FE fun e=>u (by rw[e])⟩
def Oo{w:World}{b:Nat}{us vs:Array Value}{T:TypeId}:fb (fb w b us T) b vs T=fb w b vs T:=by
 unfold fb;simp[Array.setIfInBounds_setIfInBounds]
def Oq{w:World}{b o:Nat}{us:Array Value}{T:TypeId}(h:w.heap[b]?=some (.cells us T (0,0)))(v:Value):w.setCell ⟨b,o,none⟩ v=fb w b (us.setIfInBounds o v) T:=by
 unfold World.setCell fb;congr 1;apply Array.ext_getElem?;intro k;rw[Array.getElem?_modify];by_cases u:b=k
 ·subst u;have y:=(Array.getElem?_eq_some_iff.1 h).1;rw[if_pos rfl,Array.getElem?_setIfInBounds_self_of_lt y,h];rfl
 ·rw[if_neg u,Array.getElem?_setIfInBounds_ne u]
def run_store{P:Program}{w:World}{b o:Nat}{us:Array Value}{T:TypeId}{v:Value}(h:w.heap[b]?=some (.cells us T (0,0)))(ho:o <us.size)(hv:eB v=true):(store ⟨b,o,none⟩ v).run P w=.ok () (fb w b (us.setIfInBounds o v) T):=by
 have u:w.cell? ⟨b,o,none⟩=some us[o]:=by simp[World.cell?,h,ho]
 have y:w.frozen? ⟨b,o,none⟩=false:=by simp[World.frozen?,h]
 rw[<- Oq h];unfold store;cases v <;>first|(simp[eB]at hv;done)|(simp[Sem.run,u,y])
theorem tN{P:Program}{b:Nat}{T:TypeId}(j:Nat):∀(vs:List Value) (i:Nat) (w:World) (us:Array Value),w.heap[b]?=some (.cells us T (0,0))->j+i+vs.length<=us.size->(∀v∈vs,eB v=true)->(storeCells ⟨b,j,none⟩ vs i).run P w=.ok () (fb w b (ib us (j+i) vs) T)
 |[],i,w,us,h,_,_=>by
  have:fb w b us T=w:=by
   unfold fb
   have:w.heap.setIfInBounds b (.cells us T (0,0))=w.heap:=by
    apply Array.ext_getElem?;intro k;by_cases z:b=k
    ·subst z;rw[Array.getElem?_setIfInBounds_self_of_lt (Array.getElem?_eq_some_iff.1 h).1,h]
    ·rw[Array.getElem?_setIfInBounds_ne z]
   rw[this]
  simp[storeCells,ib,this,pure,Sem.run]
 |v::vs,i,w,us,h,G,D=>by
  simp only[List.length_cons]at G;have h1:=run_store (P:=P) (o:=j+i) (v:=v) h (by omega) (D v (by simp));have y:=(Array.getElem?_eq_some_iff.1 h).1;have J:=tN (P:=P) (b:=b) (T:=T) j vs (i+1) (fb w b (us.setIfInBounds (j+i) v) T) (us.setIfInBounds (j+i) v) (tO y) (by simp;omega) fun u I=>D u (by simp[I]);unfold storeCells;simp only[Sem.run_bind,iv,h1,Result.andThen_ok,J,Oo];rfl
def ur{L:Ls}{i:Nat}{v:Value}(h:L i=some v):cK L i v=L:=by
 funext j;unfold cK;split
 ·subst_vars;exact h.symm
 ·rfl
def fw(us:List Value)(o:Nat):List Value->List Value
 |[]=>us
 |v::u=>fw (us.set o v) (o+1) u
theorem EE:∀(vs:List Value) (us:List Value) (o:Nat),(fw us o vs).length=us.length
 |[],_,_=>rfl
 |v::vs,us,o=>by rw[fw,EE vs];simp
theorem zC:∀(vs:List Value) (us:Array Value) (o:Nat),(ib us o vs).toList=fw us.toList o vs
 |[],_,_=>rfl
 |v::vs,us,o=>by rw[ib,fw,zC vs];simp
theorem zF:∀(vs:List Value) (us:List Value) (o n:Nat),o+vs.length<=n->(fw us o vs).take n=fw (us.take n) o vs
 |[],us,o,n,_=>rfl
 |v::vs,us,o,n,h=>by
  simp only[List.length_cons]at h;rw[fw,fw,zF vs _ _ _ (by omega),List.take_set]
def Er{w:World}{T:TypeId}{sz b n c q:Nat}{us vs:List Value}(h:w.ownsRow 0 T sz (.slice (some ⟨b,0,none⟩) n c) n us)(hq:q+vs.length<=us.length)(hv:∀v∈vs,eB v=true)(P:Program):
  ∃w',(storeCells ⟨b,q,none⟩ vs).run P w=.ok () w'/\w'.ownsRow 0 T sz (.slice (some ⟨b,0,none⟩) n c) n (fw us q vs)/\w.grownBy w' (some b):=by
 rcases h.2 with⟨e,_⟩|⟨g,cap,u,e,U,I,z,D,y,G⟩
 ·cases e
 ·cases e;have Z:=h.1;have V:n*sz<=u.size:=by rw[y];exact Nat.mul_le_mul_right _ z
  have J:=tN (P:=P) (b:=b) (T:=T) q vs 0 w u I (by omega) hv;rw[Nat.add_zero]at J;refine⟨_,J,⟨by rw[EE];exact h.1,.inr ⟨b,c,ib u q vs,rfl,U,tO (Array.getElem?_eq_some_iff.1 I).1,z,D,by rw[tG];exact y,?_⟩⟩,wk _ _ _ _⟩;rw[zC,zF _ _ _ _ (by omega),G]
def cd(A:Nat->Prop)(w:World)(sz:Nat)(es:List (List AV))(us:List Value):Prop:=(∀(k:Nat) (v:List AV),es[k]?=some v->v.length=sz)/\∀(k j:Nat) (v:List AV) (x:AV),es[k]?=some v->v[j]?=some x->∃u,us[k*sz+j]?=some u/\VR A w x u
theorem cd.set{A:Nat->Prop}{w:World}{sz k j:Nat}{es:List (List AV)}{us:List Value}{cs:List AV}{x:AV}{u:Value}(h:cd A w sz es us)(hk:es[k]?=some cs)(hj:j <cs.length)(hx:VR A w x u):cd A w sz (es.set k (cs.set j x)) (us.set (k*sz+j) u):=by
 have ab:=h.1 k cs hk;refine⟨fun q v D=>?_,fun q p v y D J=>?_⟩
 ·by_cases z:k=q
  ·subst z;rw[List.getElem?_set_self (aC hk)]at D;cases D;rw[List.length_set];exact ab
  ·rw[List.getElem?_set_ne z]at D;exact h.1 q v D
 ·have I:∀{q p:Nat} {v:List AV},es[q]?=some v->p <v.length->(q≠k\/p≠j)->q*sz+p≠k*sz+j:=fun{q p v} D J ag e=>by
   have h1:=h.1 q v D;have al:p <sz:=by omega
   have ad:j <sz:=by omega
   have hz:0 <sz:=by omega
   have e1:(q*sz+p) /sz=q:=by rw[Nat.mul_comm,Nat.mul_add_div hz,Nat.div_eq_of_lt al,Nat.add_zero]
   have e2:(k*sz+j) /sz=k:=by rw[Nat.mul_comm,Nat.mul_add_div hz,Nat.div_eq_of_lt ad,Nat.add_zero]
   have e3:q=k:=by rw[<- e1,<- e2,e]
   subst e3;rcases ag with h|h
   ·exact h rfl
   ·omega
  by_cases z:k=q
  ·subst z;rw[List.getElem?_set_self (aC hk)]at D;cases D;by_cases U:j=p
   ·subst U;rw[List.getElem?_set_self hj]at J;cases J;obtain⟨y0,an⟩:=am hj;obtain⟨Z,G,_⟩:=h.2 k j cs y0 hk an;exact⟨u,by rw[List.getElem?_set_self (aC G)],hx⟩
   ·rw[List.getElem?_set_ne U]at J;obtain⟨Z,G,V⟩:=h.2 k p cs y hk J;exact⟨Z,by rw[List.getElem?_set_ne (Ne.symm (I hk (aC J) (.inr (Ne.symm U))))];exact G,V⟩
  ·rw[List.getElem?_set_ne z]at D;obtain⟨Z,G,V⟩:=h.2 q p v y D J;exact⟨Z,by rw[List.getElem?_set_ne (Ne.symm (I D (aC J) (.inl (Ne.symm z))))];exact G,V⟩
theorem cd.put{A:Nat->Prop}{w:World}{sz k:Nat}:∀(xs:List AV) (vs:List Value) (es:List (List AV)) (us:List Value) (cs:List AV) (j:Nat),cd A w sz es us->es[k]?=some cs->j+xs.length<=cs.length->xs.length=vs.length->(∀(q:Nat) (x:AV) (v:Value),xs[q]?=some x->vs[q]?=some v->VR A w x v)->cd A w sz (es.set k (lO cs j xs)) (fw us (k*sz+j) vs)
 |[],[],es,us,cs,j,h,z,_,_,_=>by
  have:es.set k cs=es:=by
   apply List.ext_getElem?;intro q;by_cases I:k=q
   ·subst I;rw[List.getElem?_set_self (aC z),z]
   ·rw[List.getElem?_set_ne I]
  rw[lO,fw,this];exact h
 |x::xs,v::vs,es,us,cs,j,h,z,D,G,J=>by
  simp only[List.length_cons]at D G;have h1:=h.set z (j:=j) (by omega) (J 0 x v rfl rfl);have h2:=cd.put xs vs _ _ (cs.set j x) (j+1) h1 (List.getElem?_set_self (aC z)) (by rw[List.length_set];omega) (by omega) fun q y u V U=>J (q+1) y u (by simpa using V) (by simpa using U);rw[List.set_set]at h2;rw[lO,fw];exact h2
 |[],_::_,_,_,_,_,_,_,_,D,_=>by simp at D
 |_::_,[],_,_,_,_,_,_,_,D,_=>by simp at D
section
variable {P:Program} {γ:Glob} {κ:Ctx} {fr:Fr} {L:Ls} {w:World} {A:Nat->Prop}
def Px{env:Env}{dst:Option Tmp}{ty:TypeId}{pos:String}{after:Array Edge}{g:Option (Nat×Bool)}{t:Nat}{ad val:Operand}{x:SV}{fr':Fr}{ks:List Nat}(h:ik P fr t (rd env ad) (rd env val)=some (x,fr',ks)):
  dM P γ env fr ⟨dst,.store t ad val,ty,pos,after,g⟩ x fr' ks:=fun κ L a w hC aY=>by
 have v:=cu (aY ad (by simp[Op.operands]));have an:=cu (aY val (by simp[Op.operands]));generalize rd env ad=sa at h v;generalize rd env val=sv at h an;unfold ik at h;split at h
 ·cases h
 ·rename_i ag n ht;split at h
  ·cases h
  ·rename_i hc;rw[Bool.and_eq_true]at hc;have ao:=List.all_eq_true.1 hc.1;have hn:(bw sv).length=n:=by simpa using hc.2
   obtain⟨hl,hr⟩:=qB an ao;have a1:=HV an ao
   have G:∀{b o:Nat} {w1 w':World},a.eval ad=.pointer (some ⟨b,o,none⟩)->(storeCells ⟨b,o,none⟩ (a.eval val).cells.toList).run P w1=.ok () w'->(execOp a.eval ⟨dst,.store t ad val,ty,pos,after,g⟩).run P w1=.ok .skip w':=fun{b o w1 w'} e hs=>by
    have bo:(a.eval val).cells.size=n:=by omega
    simp[execOp,Instr.storeAt,e,Instr.sureAddr,storeVar,Sem.run_bind,(tM ht w1).2,bo,hs,pure,Sem.run]
   split at h
   ·rename_i i j;split at h
    ·rename_i T D hb;split at h
     ·rename_i hj;cases h;rw[Nat.ble_eq]at hj;obtain⟨b,hL,v⟩:=lB v;obtain⟨b',us,h3,h4,h5,h6⟩:=hC.box i _ T D hb;rw[hL]at h3;cases h3;have al:=(Array.getElem?_eq_some_iff.1 h4).1;have ab:=tN (P:=P) (b:=b) (T:=T) j (a.eval val).cells.toList 0 w us h4 (by simp;omega) a1;rw[Nat.add_zero]at ab
      obtain⟨I,J⟩:=hC.nU (w':=fb w b (ib us j (a.eval val).cells.toList) T) (ks:=[]) (v':=.pointer (some ⟨b,0,none⟩)) (lb':=.box false T (jM D j (bw sv))) hb rfl hL (wk _ _ _ _) (.inl rfl) (fun b' U=>by cases U;rw[Aj];exact al) (.inl rfl) (fun _=>rfl) fun J=>
       Dl cb (tO al) (by rw[tG,zD,h5]) (zG _ _ _ _ _ (by simp;omega) h5 (fun k y u hy hu=>J.sr (h6 k y u hy hu)) fun k y u hy hu=>J.sr (hr k y u hy (by simpa using hu)))
      unfold cN;rw[G v ab];exact⟨_,J,I,.dead _⟩
     ·cases h
    ·cases h
   ·rename_i i sz k j;split at h
    ·rename_i be bH es hb;split at h
     ·cases h
     ·rename_i hz;obtain rfl:sz=bH:=by simpa using hz
      split at h
      ·cases h
      ·rename_i D hk;split at h
       ·cases h
       ·rename_i hj;rw[Nat.ble_eq]at hj;split at h
        ·cases h
        ·rename_i xs bu;split at h
         ·cases h
         ·rename_i aA;cases h;obtain⟨b,m,c,hL,v⟩:=pw v;obtain⟨aF,bj,bi⟩:=hC.nq (br fr (bw sv));have aG:(freeze fr (br fr (bw sv)))[i]?=some (.row false be sz es):=by rw[sT,hb,aA];rfl
          obtain⟨x1,x2⟩:=qd hC (A:=MA κ.M (freeze fr (br fr (bw sv))) L) bi _ _ bu (oe hC);obtain⟨T,us,Z,aX,⟨q,c',e⟩,aT,bk⟩:=fR aF aG hL;cases e;have ax:=aC hk;have Z:=Z.own (by omega);have aR:=aT k D hk
          have hq:k*sz+j+(a.eval val).cells.toList.length<=us.length:=by
           rw[Z.1];have:(k+1)*sz<=es.length*sz:=Nat.mul_le_mul_right _ ax;rw[Nat.add_mul]at this;simp;omega
          obtain⟨w',bb,ap,hg⟩:=Er Z hq a1 P
          have aN:∃c0,c=c0+1:=by
           rcases Z.2 with⟨e,_⟩|⟨g,cap,bf,e,_,_,bZ,_⟩
           ·cases e
           ·cases e;exact⟨c - 1,by omega⟩
          obtain⟨c,rfl⟩:=aN
          have au:cd (MA κ.M (freeze fr (br fr (bw sv))) L) w sz (es.set k (lO D j xs)) (fw us (k*sz+j) (a.eval val).cells.toList):=cd.put xs _ es us D j ⟨aT,bk⟩ hk (by omega) (by simp;omega) fun q y u hy hu=>by
           obtain⟨s,hs⟩:=am (xs:=bw sv) (k:=q) (by rw[x1];exact aC hy);exact x2 q s y u hs hy (hr q s u hs (by simpa using hu))
          obtain⟨I,J⟩:=aF.nU (w':=w') (ks:=[]) (v':=.slice (some ⟨b,0,none⟩) es.length (c+1)) (lb':=.row false be sz (es.set k (lO D j xs))) aG rfl hL hg (.inl rfl) (fun b' U=>by
            cases U;rcases ap.2 with⟨e,_⟩|⟨g,cap,bf,e,_,bl,_⟩
            ·cases e
            ·cases e;exact(Array.getElem?_eq_some_iff.1 bl).1) (.inl rfl) (fun h=>h) fun J=>by
           refine⟨T,_,_,cb,.inr (by rw[List.length_set];exact ap),by rw[List.length_set];exact aX,au.1,fun q p aB y hq hp=>?_⟩;obtain⟨u,e1,e2⟩:=au.2 q p aB y hq hp;exact⟨u,e1,J.vr e2⟩
          unfold cN;rw[G v bb];exact⟨_,bj.trans J,I,.dead _⟩
    ·cases h
   ·rename_i i p k;unfold Aw at h;split at h
    ·rename_i x0 hb;split at h
     ·rename_i fs bd;split at h
      ·rename_i k1 m0 k2 m hk;split at h
       ·rename_i ax;subst ax;cases h;obtain⟨t0,b,n0,c,hL,hv,v⟩:=vn v;obtain⟨v0,t1,e1,e2⟩:=hC.blk i _ hb;rw[hL]at e1;cases e1;obtain⟨v',t',f1,f2,f3⟩:=e2.at_ bd;obtain⟨b',n',c',u,t2,g1,g2,g3,g4,_⟩:=f2.elem hk;have:=f2.hd f1 hv;rw[g1]at this;cases this;have aM:=f3 b g2;obtain⟨al,D,T,hg⟩:=e2.lt b aM;have av:D[k]?=some u:=by simpa[World.cell?,hg]using g3
        have bS:=(Array.getElem?_eq_some_iff.1 av).1;have bt:a.eval val=.int k1 m:=QT an;have aR:(a.eval val).cells.toList=[.int k1 m]:=by rw[bt];rfl
        have a6:∀z∈[Value.int k1 m],eB z=true:=fun z hz=>by
         rw[List.mem_singleton.1 hz];rfl
        have ab:=tN (P:=P) (b:=b) (T:=T) k [.int k1 m] 0 w D hg (by simp;omega) a6;rw[Nat.add_zero]at ab;have V:=wk w b (ib D k [.int k1 m]) T
        obtain⟨I,J⟩:=hC.BJ (w':=fb w b (ib D k [.int k1 m]) T) (ks:=[]) (v':=t0) (lb':=.own false (setAt x0 p k (.int k1 m))) hb rfl hL V.os V.tape V.output V.size (fun q hq hn=>V.block q hq fun e=>hn (by cases e;exact aM)) (fun _ h=>.inl h) (fun b' U=>by rw[Aj];exact(e2.lt b' U).1) (.inl rfl) (fun h=>h) fun J=>⟨v0,t0,cb,e2.put (m:=m) (fun b' bm=>FE bm) (fun aB T' h=>by
          rw[hg]at h;cases h;exact tO al) bd hk hv⟩
        unfold cN;rw[G v (by rw[aR];exact ab)];exact⟨_,J,I,.dead _⟩
       ·cases h
      ·cases h
     ·cases h
    ·cases h
   ·cases h
def mQ(w:World)(q:Option Addr)(cs:List Value):Prop:=0 <cs.length->∃b o,q=some ⟨b,o,none⟩/\b <w.heap.size/\∀j u,cs[j]?=some u->w.cell? ⟨b,o+j,none⟩=some u
def ua{M:Nat->Prop}{es:List (List AV)}{v:Value}{sz:Nat}(y:0 <sz)(h:VR M w (.arr es) v)(hl:∀(k:Nat) (cs:List AV),es[k]?=some cs->cs.length=sz):
  ∃q c us,v=.slice q es.length c/\mQ w q us/\us.length=es.length*sz/\∀(k j:Nat) (cs:List AV) (x:AV),es[k]?=some cs->cs[j]?=some x->∃u,us[k*sz+j]?=some u/\VR M w x u:=by
 cases h with
 |bS q c=>exact⟨q,c,[],rfl,fun h=>absurd h (by simp),by simp,fun k j cs x I _=>by simp at I⟩
 |arr b o c sz' _ us hne hlen hcap hb hM hs hc hr=>
  have U:sz'=sz:=by
   obtain⟨Z,he⟩:=am (xs:=es) (k:=0) (by cases es with|nil=>exact absurd rfl hne|cons=>simp);rw[<- hs 0 Z he,hl 0 Z he]
  subst U
  have D:∀q,q <es.length*sz'->((List.range (es.length*sz')).map fun q=>us (q/sz') (q %sz'))[q]?=some (us (q/sz') (q %sz')):=fun q z=>by
   rw[List.getElem?_map,List.getElem?_range z];rfl
  refine⟨_,c,(List.range (es.length*sz')).map fun q=>us (q/sz') (q %sz'),rfl,fun _=>⟨b,o,rfl,hb,fun q u V=>?_⟩,by simp,fun k j cs x I hj=>?_⟩
  ·have z:q <es.length*sz':=by have:=aC V;simpa using this
   rw[D q z]at V;cases V;have h1:=hc (q/sz') (q %sz') ((Nat.div_lt_iff_lt_mul y).2 z) (Nat.mod_lt _ y);rwa[Nat.mul_comm,Nat.div_add_mod]at h1
  ·have J:=aC I;have G:j <sz':=by rw[<- hl k cs I];exact aC hj
   have z:k*sz'+j <es.length*sz':=by
    have:(k+1)*sz'<=es.length*sz':=Nat.mul_le_mul_right _ J;rw[Nat.add_mul]at this;omega
   have e1:(k*sz'+j) /sz'=k:=by rw[Nat.mul_comm,Nat.mul_add_div y,Nat.div_eq_of_lt G,Nat.add_zero]
   have e2:(k*sz'+j) %sz'=j:=by rw[Nat.mul_comm,Nat.mul_add_mod,Nat.mod_eq_of_lt G]
   refine⟨us k j,?_,hr k j cs x I hj⟩;rw[D _ z,e1,e2]
def E5(I:ar γ κ fr L w){i sz:Nat}{ro tch:Bool}{es:List (List AV)}{v:Value}(hb:fr[i]?=some (.row ro tch sz es))(J:L i=some v):∃q c us,v=.slice q es.length c/\mQ w q us/\us.length=es.length*sz/\∀(k j:Nat) (cs:List AV) (x:AV),es[k]?=some cs->cs[j]?=some x->∃u,us[k*sz+j]?=some u/\VR (MA κ.M fr L) w x u:=by
 obtain⟨T,us,y,z,⟨q,c,rfl⟩,U,Z⟩:=fR I hb J;refine⟨q,c,us,rfl,fun G=>?_,y.len,Z⟩;rcases y with⟨h1,rfl,_⟩|y
 ·simp at G
 ·rcases y.2 with⟨e,h1⟩|⟨g,cap,D,e,_,V,_⟩
  ·have:=y.1;rw[h1]at this;omega
  ·cases e;exact⟨g,0,rfl,(Array.getElem?_eq_some_iff.1 V).1,fun j u hu=>by rw[Nat.zero_add];exact zv y hu⟩
def Ly(hC:ar γ κ fr L w){i sz a n:Nat}{es:List (List AV)}{v:Value}(h:kQ fr i sz a n=some es)(hs:SR (MA κ.M fr L) L w (.lv i sz a n) v):∃q c us,v=.slice q es.length c/\mQ w q us/\us.length=es.length*sz/\∀(k j:Nat) (cs:List AV) (x:AV),es[k]?=some cs->cs[j]?=some x->∃u,us[k*sz+j]?=some u/\VR (MA κ.M fr L) w x u:=by
 have D:=yT h;obtain⟨ro,ag,I,hb,h1,rfl⟩:=vD h;obtain⟨b,m,c,hL,rfl⟩:=ns hs;obtain⟨q,c',us,e,hr,Z,hc⟩:=E5 hC hb hL;cases e;obtain⟨_,_,_,_,_,J,_⟩:=fR hC hb hL;rw[D];have ad:a*sz+n*sz<=I.length*sz:=by rw[<- Nat.add_mul];exact Nat.mul_le_mul_right _ h1
 refine⟨_,_,(us.drop (a*sz)).take (n*sz),rfl,fun h0=>?_,by rw[List.length_take,List.length_drop,Z];omega,fun k j cs x z hj=>?_⟩
 ·obtain⟨b',o,e,V,y⟩:=hr (by rw[List.length_take,List.length_drop]at h0;omega);cases e;refine⟨b,a*sz,rfl,V,fun j u G=>?_⟩;rw[List.getElem?_take]at G;split at G
  ·rw[List.getElem?_drop]at G;have:=y _ u G;rwa[Nat.zero_add]at this
  ·cases G
 ·rw[List.getElem?_take]at z;split at z
  ·rename_i U;rw[List.getElem?_drop]at z;obtain⟨u,e1,e2⟩:=hc _ j cs x z hj;refine⟨u,?_,e2⟩;have ab:j <sz:=by rw[<- J _ _ z];exact aC hj
   have h2:(k+1)*sz<=n*sz:=Nat.mul_le_mul_right _ U;rw[Nat.add_mul]at h2 e1;rw[List.getElem?_take,if_pos (by omega),List.getElem?_drop,<- e1];congr 1;omega
  ·cases z
def vM(hC:ar γ κ fr L w){s:SV}{v:Value}{es:List (List AV)}{sz:Nat}(J:0 <sz)(h:gO fr s=some es)(hs:SR (MA κ.M fr L) L w s v)(hn:fu sz es=true):
  ∃q c us,v=.slice q es.length c/\mQ w q us/\us.length=es.length*sz/\(∀u∈us,eB u=true)/\cd (MA κ.M fr L) w sz es us:=by
 unfold fu at hn
 have G:∀(k:Nat) (D:List AV),es[k]?=some D->D.length=sz/\D.all rv=true:=fun k D I=>by
  have:=List.all_eq_true.1 hn D (List.mem_of_getElem? I);rw[Bool.and_eq_true]at this;exact⟨by simpa using this.1,this.2⟩
 have ab:∃q c us,v=.slice q es.length c/\mQ w q us/\us.length=es.length*sz/\∀(k j:Nat) (D:List AV) (x:AV),es[k]?=some D->D[j]?=some x->∃u,us[k*sz+j]?=some u/\VR (MA κ.M fr L) w x u:=by
  unfold gO at h;split at h
  ·cases h;exact ua J (gy hs (.inl rfl)) fun k D I=>(G k D I).1
  ·cases h;exact ua J (gy hs (.inr (.inr (.inr ⟨rfl,rfl⟩)))) fun k D I=>(G k D I).1
  ·cases h;exact ua J (gy hs (.inr (.inl rfl))) fun k D I=>(G k D I).1
  ·cases h;exact ua J (gy hs (.inr (.inr (.inl rfl)))) fun k D I=>(G k D I).1
  ·split at h
   ·rename_i ro al Z ao hb;cases h;obtain⟨hL,_⟩:=kH hs;obtain⟨T,us,ap,an,hf,V,hr⟩:=fR hC hb hL;rcases es with _|⟨e0,et⟩
    ·obtain⟨q,c,rfl⟩:=hf;exact⟨q,c,[],rfl,fun h=>absurd h (by simp),by simp,fun k j D x I _=>by simp at I⟩
    ·have:Z=sz:=by rw[<- V 0 e0 rfl,(G 0 e0 rfl).1]
     subst this;exact E5 hC hb hL
   ·cases h
  ·rename_i i Z a n;obtain⟨ro,al,ad,hb,h1,he⟩:=vD h;obtain⟨b,m,c,hL,hv⟩:=ns hs;obtain⟨_,_,_,_,_,V,_⟩:=fR hC hb hL;rcases es with _|⟨e0,et⟩
   ·have:=yT h;subst hv;rw[<- this];exact⟨_,_,[],rfl,fun h=>absurd h (by simp),by simp,fun k j D x I _=>by simp at I⟩
   ·have:Z=sz:=by
     have h2:((ad.drop a).take n)[0]?=some e0:=by rw[<- he];rfl
     rw[List.getElem?_take]at h2;split at h2
     ·rw[List.getElem?_drop]at h2;rw[<- V _ e0 h2,(G 0 e0 rfl).1]
     ·cases h2
    subst this;exact Ly hC h hs
  ·cases h
 obtain⟨q,c,us,h1,h2,h3,h4⟩:=ab;refine⟨q,c,us,h1,h2,h3,fun u hu=>?_,fun k D I=>(G k D I).1,h4⟩;obtain⟨p,hp,rfl⟩:=List.mem_iff_getElem.1 hu;have ag:p <es.length*sz:=by omega
 have I:p/sz <es.length:=(Nat.div_lt_iff_lt_mul J).2 ag;obtain⟨D,U⟩:=am I;have hj:p %sz <D.length:=by rw[(G _ D U).1];exact Nat.mod_lt _ J
 obtain⟨y,hy⟩:=am hj;obtain⟨u',e1,e2⟩:=h4 _ _ D y U hy;rw[Nat.mul_comm,Nat.div_add_mod,List.getElem?_eq_getElem hp]at e1;cases e1;have ho:=List.all_eq_true.1 (G _ D U).2 y (List.mem_of_getElem? hy);generalize us[p]=z at e2;cases e2 <;>first|rfl|(simp[rv]at ho;done)|(rename_i h;cases z <;>first|rfl|cases h)
def tK{t ty e sz aB T n m c:Nat}{v:Value}{us D:List Value}{q:Option Addr}(ht:eQ P t=some (e,sz,aB))(h:cm w T sz v n us)(hx:mQ w q D)(hl:D.length=m*sz)(h1:∀u∈D,eB u=true)(hlen:n+m<=140737488351232)(aF:(n+m)*aB<=140737488355328):
  ∃v' w' T',(Builtin.append_ #[t,t] ty #[v,.slice q m c]).run P w=.ok v' w'/\cm w' T' sz v' (n+m) (us++D)/\w.grownBy w' (bv v)/\(bv v'=bv v\/bv v'=some w.heap.size\/bv v'=none):=by
 obtain⟨i,z,hu,hi,hz,rfl,rfl,bd,aR⟩:=rH ht;have ab:=h.len;rcases Nat.eq_zero_or_pos m with h0|h0
 ·subst h0;have hn:D=[]:=List.eq_nil_of_length_eq_zero (by simpa using hl);subst hn
  have al:∀{a:Option Addr} {n cap:Nat},n<=cap->(Builtin.append_ #[t,t] ty #[.slice a n cap,.slice q 0 c]).run P w=.ok (.slice a n cap) w:=fun{a n cap} an=>by
   cases q <;>cases a <;>simp[Builtin.append_,run_underlying hu,sizeOf,typeInfo,hi,Builtin.lenOf,Builtin.firstCells,loadCells,loadCellsFrom,an,storeCells]
  refine⟨v,w,T,?_,by simpa using h,⟨rfl,rfl,rfl,Nat.le_refl _,fun _ _ _=>rfl⟩,.inl rfl⟩;rcases h with⟨rfl,_,a,rfl⟩|h
  ·exact al (Nat.le_refl _)
  ·rcases h.2 with⟨rfl,_⟩|⟨g,cap,U,rfl,_,_,an,_⟩
   ·exact al (Nat.le_refl _)
   ·exact al an
 ·obtain⟨b,o,rfl,hb,aN⟩:=hx (by rw[hl];exact Nat.mul_pos h0 aR);have Z:∀j u,D[j]?=some u->w.cell? ((⟨b,o,none⟩:Addr).add j)=some u:=fun j u hu=>by rw[iv];exact aN j u hu
  have be:∀u∈D,u.oneCell'=true:=fun u hu=>by have:=h1 u hu;cases u <;>first|rfl|cases this
  have au:∀(J:Nat),J <n+m->∀(row:Option Nat),cm (w.drew.alloc (.cells (us.toArray++D.toArray++Builtin.zeroCells z.cells (grownCap w (n+m) J e - (n+m))) e)) e i.size (.slice (some ⟨w.heap.size,0,none⟩) (n+m) (grownCap w (n+m) J e)) (n+m) (us++D)/\
    w.grownBy (w.drew.alloc (.cells (us.toArray++D.toArray++Builtin.zeroCells z.cells (grownCap w (n+m) J e - (n+m))) e)) row:=fun J ho row=>by
   have G:=grownCap_ge w (n+m) J e;have av:grownCap w (n+m) J e<=maxLen:=grownCap_le_maxLen w (n+m) J e (by unfold maxLen;omega);refine⟨.inr ⟨by rw[List.length_append,ab,hl,Nat.add_mul],.inr ⟨w.heap.size,_,_,rfl,Nat.zero_le _,heap_alloc_new w.drew _,G,av,?_,?_⟩⟩,⟨rfl,rfl,rfl,by simp,fun k hk _=>Below.heap_alloc w.drew _ k hk⟩⟩
   ·simp only[Array.size_append,List.size_toArray,size_zeroCells,bd,ab,hl,<- Nat.add_mul];congr 1;omega
   ·have:(us++D).length=(n+m)*i.size:=by rw[List.length_append,ab,hl,Nat.add_mul]
    simp only[Array.toList_append];rw[<- this];exact List.take_left
  have ap:∀{a:Addr} {cap:Nat},cap <n+m->(∀j u,us[j]?=some u->w.cell? (a.add j)=some u)->(bv (.slice (some a) n cap)=none\/True)->∃v' w' T',(Builtin.append_ #[t,t] ty #[.slice (some a) n cap,.slice (some ⟨b,o,none⟩) m c]).run P w=.ok v' w'/\cm w' T' i.size v' (n+m) (us++D)/\w.grownBy w' (bv (.slice (some a) n cap))/\(bv v'=bv (.slice (some a) n cap)\/bv v'=some w.heap.size\/bv v'=none):=fun{a cap} ag aA _=>by
   have hr:=run_append_grow (P:=P) w t ty e i z hu hi hz a n cap us ab aA ⟨b,o,none⟩ m c D hl Z ag (by omega) (growslice_fits ag aF);obtain⟨m1,m2⟩:=au cap ag (bv (.slice (some a) n cap));have G:=grownCap_ge w (n+m) cap e;obtain⟨k,hk⟩:∃k,grownCap w (n+m) cap e=k+1:=⟨grownCap w (n+m) cap e - 1,by omega⟩;refine⟨_,_,e,hr,m1,m2,.inr (.inl ?_)⟩;rw[hk];rfl
  have I:n=0->us=[]->∃v' w' T',(Builtin.append_ #[t,t] ty #[.slice none 0 0,.slice (some ⟨b,o,none⟩) m c]).run P w=.ok v' w'/\cm w' T' i.size v' (n+m) (us++D)/\w.grownBy w' none/\(bv v'=none\/bv v'=some w.heap.size\/bv v'=none):=fun V ad=>by
   subst V ad;have hr:=run_append_nil (P:=P) w t ty e i z hu hi hz ⟨b,o,none⟩ m c D hl Z h0 (by omega) (by have hb:=aF;simp only[Nat.zero_add]at hb;omega);obtain⟨m1,m2⟩:=au 0 (by omega) none;have G:=grownCap_ge w (0+m) 0 e;simp only[Nat.zero_add,List.nil_append,Array.empty_append]at m1 m2 G⊢;obtain⟨k,hk⟩:∃k,grownCap w m 0 e=k+1:=⟨grownCap w m 0 e - 1,by omega⟩;refine⟨_,_,e,hr,m1,m2,.inr (.inl ?_)⟩;rw[hk];rfl
  rcases h with⟨V,ad,a,rfl⟩|h
  ·cases a with
   |none=>exact I V ad
   |some a=>
    subst V;exact ap (a:=a) (cap:=0) (by omega) (fun j u hu=>by rw[ad]at hu;simp at hu) (.inr trivial)
  ·rcases h.2 with⟨rfl,V⟩|⟨g,cap,U,rfl,aY,hg,an,av,ax,bb⟩
   ·exact I V (List.eq_nil_of_length_eq_zero (by rw[ab,V];simp))
   ·rcases Nat.lt_or_ge cap (n+m)with a6|G
    ·exact ap a6 (h.cells (g:=g) rfl) (.inr trivial)
    ·have hf:=run_firstCells_some (P:=P) w i.size m ⟨b,o,none⟩ m c D hl Z;have aG:n*i.size+0+D.length<=U.size:=by rw[hl,ax,Nat.add_zero,<- Nat.add_mul];exact Nat.mul_le_mul_right _ G
     have aX:=tN (P:=P) (b:=g) (T:=T) (n*i.size) D 0 w U hg aG h1;rw[Nat.add_zero]at aX;have aM:=(Array.getElem?_eq_some_iff.1 hg).1;obtain⟨k,rfl⟩:∃k,cap=k+1:=⟨cap - 1,by omega⟩;refine⟨.slice (some ⟨g,0,none⟩) (n+m) (k+1),fb w g (ib U (n*i.size) D) T,T,?_,.inr ⟨by rw[List.length_append,ab,hl,Nat.add_mul],.inr ⟨g,k+1,_,rfl,aY,tO aM,G,av,by rw[tG];exact ax,?_⟩⟩,wk _ _ _ _,.inl rfl⟩
     ·simp[Builtin.append_,run_underlying hu,sizeOf,typeInfo,hi,Builtin.lenOf,G,hf,iv,aX]
     ·have a1:(n+m)*i.size<=U.toList.length:=by rw[Array.length_toList,ax];exact Nat.mul_le_mul_right _ G
      rw[zC,zF _ _ _ _ (by rw[hl,<- Nat.add_mul];exact Nat.le_refl _)]
      have aT:∀(vs xs ys:List Value),vs.length=ys.length->fw (xs++ys) xs.length vs=xs++vs:=fun vs=>by
       induction vs with
       |nil=>intro xs ys hy;rw[List.eq_nil_of_length_eq_zero hy.symm];rfl
       |cons v vs ih=>
        intro xs ys hy
        cases ys with
        |nil=>simp at hy
        |cons y ys=>
         rw[fw];have:(xs++y::ys).set xs.length v=(xs++[v])++ys:=by simp
         rw[this];have:=ih (xs++[v]) ys (by simpa using hy);rw[List.length_append]at this;simp only[List.length_cons,List.length_nil,Nat.zero_add]at this;rw[this];simp
      have ao:U.toList.take ((n+m)*i.size)=us++(U.toList.drop (n*i.size)).take (m*i.size):=by
       rw[<- bb,Nat.add_mul,List.take_add]
      rw[ao];have ad:n*i.size=us.length:=ab.symm;rw[ad];exact aT D us _ (by rw[List.length_take,List.length_drop];rw[Nat.add_mul]at a1;omega)
end
section
variable {P:Program} {γ:Glob} {env:Env} {fr:Fr} {dst:Option Tmp} {ty:TypeId} {pos:String} {after:Array Edge} {g:Option (Nat×Bool)}
def vL{o:Oper}{sz:Nat}{es:List (List AV)}(h:∀(κ:Ctx) (L:Ls) (a:Act) (w:World),ar γ κ fr L w->(∀y∈o.op.operands,SR (MA κ.M fr L) L w (rd env y) (a.eval y))->∃(T:TypeId) (v:Value) (us:List Value) (w':World),(execOp a.eval o).run P w=.ok (.value v) w'/\Below w.heap.size w w'/\cm w' T sz v es.length us/\es.length<=140737488351232/\cd (MA κ.M fr L) w sz es us/\∀b,bv v=some b->w.heap.size<=b/\b <w'.heap.size):
  dM P γ env fr o (.ls fr.length) (fr++[.row false false sz es]) []:=fun κ L a w J G=>by
 obtain⟨T,v,us,w',h1,h2,h3,h4,I,h6⟩:=h κ L a w J fun y hy=>cu (G y hy)
 obtain⟨z,D⟩:=J.push h2 (.row false false sz es) v h6 (hpv:=by obtain⟨_,_,rfl⟩:=h3.form;rfl) fun D=>⟨T,v,us,cb,h3,h4,I.1,fun k j U x hk hj=>by
  obtain⟨u,V,Z⟩:=I.2 k j U x hk hj;exact⟨u,V,D.vr Z⟩⟩
 refine .nK h1 ⟨_,D,z,.ls _ v cb ?_⟩;obtain⟨q,c,rfl⟩:=h3.form;rfl
def L4{o:Oper}{sz:Nat}{es:List (List AV)}(h:∀(κ:Ctx) (L:Ls) (a:Act) (w:World),ar γ κ fr L w->(∀y∈o.op.operands,SR (MA κ.M fr L) L w (rd env y) (a.eval y))->∃(T:TypeId) (v:Value) (us:List Value) (w':World),(execOp a.eval o).run P w=.ok (.value v) w'/\Below w.heap.size w w'/\cm w' T sz v es.length us/\es.length<=140737488351232/\cd (MA κ.M fr L) w sz es us/\∀b,bv v=some b->w.heap.size<=b/\b <w'.heap.size):dM P γ env fr o (.t (.arr es)) fr []:=fun κ L a w z V=>by
 obtain⟨T,v,us,w',h1,h2,h3,h4,h5,h6⟩:=h κ L a w z fun y hy=>cu (V y hy)
 obtain⟨U,hT⟩:=z.push h2 (.row false false sz es) v h6 (hpv:=by obtain⟨_,_,rfl⟩:=h3.form;rfl) fun hT=>⟨T,v,us,cb,h3,h4,h5.1,fun k j cs x hk hj=>by
  obtain⟨u,D,G⟩:=h5.2 k j cs x hk hj;exact⟨u,D,hT.vr G⟩⟩
 refine .nK h1 ⟨L,Tr.below h2,z.later h2,.t _ _ ?_⟩;refine wa U (A:=MA κ.M fr L) (fun b J=>⟨J.1,fun⟨i,u,Z,D,G,I,e4⟩=>J.2 ⟨i,u,Z,?_,G,?_,e4⟩⟩) (i:=fr.length) (sz:=sz) (ro:=false) (tch:=false) (by simp) cb fun b J=>?_
 ·rw[fW (by have:=z.lim i u D;omega)];exact D
 ·rw[List.getElem?_append_left (aC I)];exact I
 ·have hn:=h6 b J;refine⟨z.fresh b (by have:=z.size;omega),fun⟨i,u,Z,D,G,I,_⟩=>?_⟩;have:=(z.new i u b Z D G I).1;omega
def Q9{s x:Operand}{t:Nat}{tys:Array TypeId}{args:Array Operand}{a:Act}{w w':World}{v:Value}(u:args.toList=[s,x])(y:tys.toList=[t,t])(h:(Builtin.append_ #[t,t] ty #[a.eval s,a.eval x]).run P w=.ok v w'):(execOp a.eval ⟨dst,.call ⟨.builtin .append,args,tys⟩,ty,pos,after,g⟩).run P w=.ok (.value v) w':=by
 obtain⟨args⟩:=args;obtain⟨tys⟩:=tys;simp only at u y;subst u y;simp only[execOp,resolve,invoke,builtin,Sem.run_bind,Sem.run_pure,Result.andThen_ok,List.map_toArray,List.map_cons,List.map_nil,h]
def th{n u:Nat}(h:cn n u=true):n<=140737488351232/\n*u<=140737488355328:=by
 unfold cn at h;rw[Bool.and_eq_true,Nat.ble_eq,Nat.ble_eq]at h;exact h
def cd.fZ{A:Nat->Prop}{w:World}{sz:Nat}{es fs:List (List AV)}{us vs:List Value}(h:cd A w sz es us)(J:us.length=es.length*sz)(k:cd A w sz fs vs):cd A w sz (es++fs) (us++vs):=by
 refine⟨fun q y v=>?_,fun q j y x v I=>?_⟩
 ·by_cases G:q <es.length
  ·rw[List.getElem?_append_left G]at v;exact h.1 q y v
  ·rw[List.getElem?_append_right (by omega)]at v;exact k.1 _ y v
 ·by_cases G:q <es.length
  ·rw[List.getElem?_append_left G]at v;obtain⟨u,z,D⟩:=h.2 q j y x v I;exact⟨u,by rw[List.getElem?_append_left (aC z)];exact z,D⟩
  ·rw[List.getElem?_append_right (by omega)]at v;obtain⟨u,z,D⟩:=k.2 _ j y x v I;refine⟨u,?_,D⟩;have U:q*sz=es.length*sz+(q - es.length)*sz:=by rw[<- Nat.add_mul];congr 1;omega
   rw[List.getElem?_append_right (by omega),J,show q*sz+j - es.length*sz=(q - es.length)*sz+j by omega];exact z
def cd.nil{A:Nat->Prop}{w:World}{sz:Nat}:cd A w sz [] []:=⟨fun k u h=>by simp at h,fun k j u x h=>by simp at h⟩
def Ow{α:Type}{l:List α}{i:Nat}{x:α}(h:l[i]?=some x):l.set i x=l:=by
 obtain⟨u,rfl⟩:=List.getElem?_eq_some_iff.1 h;exact List.set_getElem_self u
theorem cd.take{A:Nat->Prop}{w:World}{sz:Nat}{es:List (List AV)}{us:List Value}(h:cd A w sz es us)(n:Nat):cd A w sz (es.take n) (us.take (n*sz)):=by
 refine⟨fun k y v=>?_,fun k j y x v D=>?_⟩
 ·rw[List.getElem?_take]at v;split at v
  ·exact h.1 k y v
  ·cases v
 ·rw[List.getElem?_take]at v;split at v
  ·rename_i z;obtain⟨u,G,I⟩:=h.2 k j y x v D;have J:j <sz:=by rw[<- h.1 k y v];exact aC D
   have:(k+1)*sz<=n*sz:=Nat.mul_le_mul_right _ z;rw[Nat.add_mul]at this;exact⟨u,by rw[List.getElem?_take,if_pos (by omega)];exact G,I⟩
  ·cases v
def cm.Qa{w:World}{T:TypeId}{sz m n b c:Nat}{us:List Value}(h:cm w T sz (.slice (some ⟨b,0,none⟩) m c) m us)(hn:n<=m):cm w T sz (.slice (some ⟨b,0,none⟩) n c) n (us.take (n*sz)):=by
 rcases h with⟨J,rfl,a,e⟩|h
 ·cases e;obtain rfl:n=0:=by omega
  exact .inl ⟨rfl,by simp,_,rfl⟩
 ·rcases h.2 with⟨e,_⟩|⟨g,cap,u,e,D,G,I,v,y,z⟩
  ·cases e
  ·cases e;refine .inr ⟨?_,.inr ⟨b,c,u,rfl,D,G,by omega,v,y,?_⟩⟩
   ·rw[List.length_take,h.1];exact Nat.min_eq_left (Nat.mul_le_mul_right _ hn)
   ·rw[<- z,List.take_take,Nat.min_eq_left (Nat.mul_le_mul_right _ hn)]
theorem zE:∀(vs us:List Value) (o k:Nat),o+vs.length<=us.length->(fw us o vs)[k]?=if o<=k/\k <o+vs.length then vs[k - o]? else us[k]?
 |[],us,o,k,h=>by rw[if_neg (by simp)];rfl
 |v::vs,us,o,k,h=>by
  simp only[List.length_cons]at h;rw[fw,zE vs _ _ _ (by rw[List.length_set];omega)];simp only[List.length_cons];by_cases h1:o+1<=k/\k <o+1+vs.length
  ·rw[if_pos h1,if_pos (by omega)];obtain⟨q,rfl⟩:∃q,k=o+1+q:=⟨k - (o+1),by omega⟩;rw[Nat.add_sub_cancel_left,Nat.add_assoc,Nat.add_comm 1 q,<- Nat.add_assoc,Nat.add_assoc,Nat.add_sub_cancel_left];rfl
  ·rw[if_neg h1];by_cases h2:k=o
   ·subst h2;rw[if_pos (by omega),List.getElem?_set_self (by omega),Nat.sub_self]
    try rfl
   ·rw[if_neg (by omega),List.getElem?_set_ne (fun e=>h2 e.symm)]
def cd.clear{A:Nat->Prop}{w:World}{sz a n:Nat}{es:List (List AV)}{us:List Value}{zs:List AV}{zu:List Value}(h:cd A w sz es us)(U:us.length=es.length*sz)(hz:zs.length=sz)(V:zu.length=n*sz)(J:a+n<=es.length)(hr:∀(k j:Nat) (x:AV),k <n->zs[j]?=some x->∃u,zu[k*sz+j]?=some u/\VR A w x u):
  cd A w sz (es.take a++List.replicate n zs++es.drop (a+n)) (fw us (a*sz) zu):=by
 have G:∀(k:Nat) (y:List AV),(es.take a++List.replicate n zs++es.drop (a+n))[k]?=some y->(k <a/\es[k]?=some y)\/(a<=k/\k <a+n/\y=zs)\/(a+n<=k/\es[k]?=some y):=fun k y v=>by
  have z:(es.take a).length=a:=by rw[List.length_take];omega
  rw[List.getElem?_append]at v;split at v
  ·rename_i h1;rw[List.length_append,z,List.length_replicate]at h1;rw[List.getElem?_append]at v;split at v
   ·rename_i h2;rw[z]at h2;rw[List.getElem?_take,if_pos h2]at v;exact .inl ⟨h2,v⟩
   ·rename_i h2;rw[z]at h2 v;rw[List.getElem?_replicate,if_pos (by omega)]at v;cases v;exact .inr (.inl ⟨by omega,h1,rfl⟩)
  ·rename_i h1;rw[List.length_append,z,List.length_replicate]at h1 v;rw[List.getElem?_drop]at v;exact .inr (.inr ⟨by omega,by rwa[show a+n+(k - (a+n))=k by omega]at v⟩)
 have Z:a*sz+n*sz<=us.length:=by rw[U,<- Nat.add_mul];exact Nat.mul_le_mul_right _ J
 refine⟨fun k y v=>?_,fun k j y x v D=>?_⟩
 ·rcases G k y v with⟨_,h2⟩|⟨_,_,rfl⟩|⟨_,h2⟩
  ·exact h.1 k y h2
  ·exact hz
  ·exact h.1 k y h2
 ·rw[zE _ _ _ _ (by omega),V];rcases G k y v with⟨h1,h2⟩|⟨h1,h2,rfl⟩|⟨h1,h2⟩
  ·have I:j <sz:=by rw[<- h.1 k y h2];exact aC D
   have:(k+1)*sz<=a*sz:=Nat.mul_le_mul_right _ h1;rw[Nat.add_mul]at this;rw[if_neg (by omega)];exact h.2 k j y x h2 D
  ·have I:j <sz:=by rw[<- hz];exact aC D
   obtain⟨q,rfl⟩:∃q,k=a+q:=⟨k - a,by omega⟩;have:(q+1)*sz<=n*sz:=Nat.mul_le_mul_right _ (by omega);rw[Nat.add_mul]at this;rw[Nat.add_mul,if_pos (by omega),show a*sz+q*sz+j - a*sz=q*sz+j by omega];exact hr q j x (by omega) D
  ·have I:j <sz:=by rw[<- h.1 k y h2];exact aC D
   have:(a+n)*sz<=k*sz:=Nat.mul_le_mul_right _ h1;rw[Nat.add_mul]at this;rw[if_neg (by omega)];exact h.2 k j y x h2 D
def Hm{s y:Operand}{t:Nat}{args:Array Operand}{tys:Array TypeId}{x:SV}{fr':Fr}{ks:List Nat}(J:args.toList=[s,y])(aG:tys.toList=[t,t])(h:sk P fr t (rd env s) (rd env y)=some (x,fr',ks)):
  dM P γ env fr ⟨dst,.call ⟨.builtin .append,args,tys⟩,ty,pos,after,g⟩ x fr' ks:=by
 have a1:s∈(Op.call ⟨.builtin .append,args,tys⟩).operands:=by simp[Op.operands,Call.operands,<- Array.mem_toList_iff,J]
 have a6:y∈(Op.call ⟨.builtin .append,args,tys⟩).operands:=by simp[Op.operands,Call.operands,<- Array.mem_toList_iff,J]
 unfold sk at h;split at h
 ·cases h
 ·rename_i e sz bi ht;obtain⟨_,_,_,_,_,_,_,_,U⟩:=rH ht;split at h
  ·cases h
  ·rename_i D ap;split at h
   ·cases h
   ·rename_i aB
    -- a new row out of an empty one,or out of one without room
    have av:∀(V:List (List AV)),cn (V.length+D.length) bi=true->(∀(κ:Ctx) (L:Ls) (w:World) (v:Value),ar γ κ fr L w->SR (MA κ.M fr L) L w (rd env s) v->∃(ad:List Value) (T:Nat),cd (MA κ.M fr L) w sz V ad/\ad.length=V.length*sz/\
      ∀(q:Option Addr) (c:Nat) (G:List Value),mQ w q G->G.length=D.length*sz->(∀u∈G,eB u=true)->∃v' w' T',(Builtin.append_ #[t,t] ty #[v,.slice q D.length c]).run P w=.ok v' w'/\cm w' T' sz v' (V.length+D.length) (ad++G)/\Below w.heap.size w w'/\(bv v'=some w.heap.size\/bv v'=none))->
      dM P γ env fr ⟨dst,.call ⟨.builtin .append,args,tys⟩,ty,pos,after,g⟩ (.ls fr.length) (fr++[.row false false sz (V++D)]) []:=fun V ag b1=>vL fun κ L a w hC al=>by
     obtain⟨h1,h2⟩:=th ag;obtain⟨q,c,G,e1,e2,e3,e4,e5⟩:=vM hC U ap (al y a6) aB;obtain⟨ad,T,o1,o2,o3⟩:=b1 κ L w _ hC (al s a1);obtain⟨v',w',T',r1,Z,r3,r4⟩:=o3 q c G e2 e3 e4;refine⟨T',v',ad++G,w',Q9 J aG (by rw[e1];exact r1),r3,by rw[List.length_append];exact Z,by rw[List.length_append];exact h1,o1.fZ o2 e5,fun b hb=>?_⟩;rcases r4 with h|h
     ·rw[h]at hb;cases hb;refine⟨Nat.le_refl _,?_⟩;rcases Z with⟨_,_,a',rfl⟩|Z
      ·cases a' <;>cases h
      ·rcases Z.2 with⟨rfl,_⟩|⟨gg,cap,bj,rfl,_,aA,_⟩
       ·cases h
       ·have I:=(Array.getElem?_eq_some_iff.1 aA).1
        cases cap with
        |zero=>cases h
        |succ cap=>cases h;exact I
     ·rw[h]at hb;cases hb
    have ao:∀{w w':World} {v:Value},bv v=none->w.grownBy w' (bv v)->Below w.heap.size w w':=fun{w w' v} hn hg=>⟨hg.os,hg.tape,hg.output,hg.size,fun k hk=>hg.block k hk (by rw[hn];intro h;cases h)⟩
    have au:cn D.length bi=true->(∀(A:Nat->Prop) (L:Ls) (w:World) (v:Value),SR A L w (rd env s) v->∃a,v=.slice a 0 0)->dM P γ env fr ⟨dst,.call ⟨.builtin .append,args,tys⟩,ty,pos,after,g⟩ (.ls fr.length) (fr++[.row false false sz D]) []:=fun ag hv=>by
     have:=av [] (by simpa using ag) fun κ L w v hC hs=>by
      obtain⟨a,rfl⟩:=hv _ _ _ _ hs;refine⟨[],0,cd.nil,by simp,fun q c G hx hl hp=>?_⟩;obtain⟨h1,h2⟩:=th ag;obtain⟨v',w',T',r1,Z,r3,r4⟩:=tK (P:=P) (ty:=ty) (T:=0) (n:=0) (us:=[]) ht (.inl ⟨rfl,rfl,a,rfl⟩) hx hl hp (by omega) (by simpa using h2);have hn:bv (.slice a 0 0)=none:=by cases a <;>rfl
      refine⟨v',w',T',r1,Z,ao hn r3,?_⟩;rcases r4 with r4|r4|r4
      ·rw[hn]at r4;exact .inr r4
      ·exact .inl r4
      ·exact .inr r4
     simpa using this
    split at h
    ·-- a row of the call's own
     rename_i i bd;split at h
     ·rename_i b5 bf es hb;split at h
      ·rename_i hc;cases h;rw[Bool.and_eq_true]at hc;obtain rfl:sz=bf:=by simpa using hc.1
       obtain⟨h1,h2⟩:=th hc.2;intro κ L a w hC al;have aF:=cu (al s a1);rw[bd]at aF;obtain⟨q,c,G,e1,e2,e3,e4,e5⟩:=vM hC U ap (cu (al y a6)) aB;obtain⟨hL,hpv⟩:=kH aF;obtain⟨T,us,aM,bo,ax,aY,aX⟩:=fR hC hb hL;obtain⟨v',w',T',r1,Z,r3,r4⟩:=tK (P:=P) (ty:=ty) ht aM e2 e3 e4 h1 h2
       obtain⟨aT,hT⟩:=hC.nU (w':=w') (ks:=[i]) (v':=v') (lb':=.row false true sz (es++D)) (hpv:=by obtain⟨_,_,rfl⟩:=Z.form;rfl) hb rfl hL r3 r4 (fun b ab=>by
         rcases Z with⟨_,_,a',rfl⟩|Z
         ·cases a' <;>cases ab
         ·rcases Z.2 with⟨rfl,_⟩|⟨gg,cap,bj,rfl,_,aA,_⟩
          ·cases ab
          ·have I:=(Array.getElem?_eq_some_iff.1 aA).1
           cases cap with
           |zero=>cases ab
           |succ cap=>cases ab;exact I) (.inr ⟨by simp,rfl⟩) (fun h=>by cases h) fun hT=>by
        have an:cd (MA κ.M fr L) w sz (es++D) (us++G):=cd.fZ ⟨aY,aX⟩ aM.len e5;refine⟨T',v',us++G,cb,by rw[List.length_append];exact Z,by rw[List.length_append];exact h1,an.1,fun k j cs x hk hj=>?_⟩;obtain⟨u,f1,f2⟩:=an.2 k j cs x hk hj;exact⟨u,f1,hT.vr f2⟩
       refine .nK (Q9 J aG (by rw[e1];exact r1)) ⟨_,hT,aT,.ls _ v' cb ?_⟩;obtain⟨q',c',rfl⟩:=Z.form;rfl
      ·cases h
     ·cases h
    ·-- a piece of a row,from its beginning
     rename_i i eD n bd;split at h
     ·rename_i b5 bf es hb;split at h
      ·rename_i hc;cases h;rw[Bool.and_eq_true,Bool.and_eq_true,Bool.and_eq_true,Nat.ble_eq]at hc;obtain rfl:sz=bf:=by simpa using hc.1
       obtain rfl:eD=sz:=by simpa using hc.2.1
       obtain⟨h1,h2⟩:=th hc.2.2.2;intro κ L a w hC al;have aF:=cu (al s a1);rw[bd]at aF;obtain⟨q,c,G,e1,e2,e3,e4,e5⟩:=vM hC U ap (cu (al y a6)) aB;obtain⟨bb,m,cc,hL,hv⟩:=ns aF;obtain⟨T,us,aM,bo,⟨q0,c0,ax⟩,aY,aX⟩:=fR hC hb hL;cases ax;have be:a.eval s=.slice (some ⟨bb,0,none⟩) n cc:=by rw[hv];simp
       have aR:cm w T eD (.slice (some ⟨bb,0,none⟩) n cc) n (us.take (n*eD)):=aM.Qa hc.2.2.1;have I:(es.take n).length=n:=by rw[List.length_take];omega
       obtain⟨v',w',T',r1,Z,r3,r4⟩:=tK (P:=P) (ty:=ty) ht aR e2 e3 e4 h1 h2;have bu:bv (.slice (some ⟨bb,0,none⟩) n cc)=bv (.slice (some ⟨bb,0,none⟩) es.length cc):=by cases cc <;>rfl
       rw[bu]at r3 r4
       obtain⟨aT,hT⟩:=hC.nU (w':=w') (ks:=[i]) (v':=v') (lb':=.row false true eD (es.take n++D)) (hpv:=by obtain⟨_,_,rfl⟩:=Z.form;rfl) hb rfl hL r3 r4 (fun b ab=>by
         rcases Z with⟨_,_,a',rfl⟩|Z
         ·cases a' <;>cases ab
         ·rcases Z.2 with⟨rfl,_⟩|⟨gg,cap,bj,rfl,_,aA,_⟩
          ·cases ab
          ·have I:=(Array.getElem?_eq_some_iff.1 aA).1
           cases cap with
           |zero=>cases ab
           |succ cap=>cases ab;exact I) (.inr ⟨by simp,rfl⟩) (fun h=>by cases h) fun hT=>by
        have an:cd (MA κ.M fr L) w eD (es.take n++D) (us.take (n*eD)++G):=cd.fZ (cd.take ⟨aY,aX⟩ n) (by rw[I];exact aR.len) e5;refine⟨T',v',us.take (n*eD)++G,cb,by rw[List.length_append,I];exact Z,by rw[List.length_append,I];exact h1,an.1,fun k j cs x hk hj=>?_⟩;obtain⟨u,f1,f2⟩:=an.2 k j cs x hk hj;exact⟨u,f1,hT.vr f2⟩
       refine .nK (Q9 J aG (by rw[e1,be];exact r1)) ⟨_,hT,aT,.ls _ v' cb ?_⟩;obtain⟨q',c',rfl⟩:=Z.form;rfl
      ·cases h
     ·cases h
    ·rename_i hs;split at h
     ·rename_i ag;cases h;exact au ag fun A L w v hv=>by rw[hs]at hv;cases hv;exact⟨none,rfl⟩
     ·cases h
    ·rename_i hs;split at h
     ·rename_i ag;cases h;exact au ag fun A L w v hv=>by rw[hs]at hv;cases hv with|tc _ a h=>exact⟨a,rfl⟩
     ·cases h
    ·rename_i e0 et hs;split at h
     ·rename_i c0 ct;split at h
      ·rename_i hc;cases h;rw[Bool.and_eq_true]at hc;obtain⟨h1,h2⟩:=th hc.2;refine av (e0::et) hc.2 fun κ L w v hC hv=>?_;rw[hs]at hv;have be:VR (MA κ.M fr L) w (.arr (e0::et)) v:=gy hv (.inr (.inl rfl));have bt:=hc.1;unfold fu at bt
       have aN:∀(k:Nat) (cs:List AV),(e0::et)[k]?=some cs->cs.length=sz:=fun k cs hk=>by
        have:=List.all_eq_true.1 bt cs (List.mem_of_getElem? hk);rw[Bool.and_eq_true]at this;simpa using this.1
       obtain⟨q',c',ad,f1,f2,f3,f4⟩:=ua U be aN;refine⟨ad,0,⟨aN,f4⟩,f3,fun q c G hx hl hp=>?_⟩;have b3:∃a,v=.slice a (e0::et).length (e0::et).length:=by cases hv with|tc _ a h=>exact⟨a,rfl⟩
       obtain⟨a,rfl⟩:=b3;cases f1;obtain⟨i,z,hu,hi,hz,bm,bH,b4,U⟩:=rH ht;subst bm bH;obtain⟨b,o,rfl,hb,bS⟩:=f2 (by rw[f3];exact Nat.mul_pos (by simp) U);obtain⟨b2,o2,rfl,b7,bk⟩:=hx (by rw[hl];exact Nat.mul_pos (by simp) U);have I:(e0::et).length <(e0::et).length+(c0::ct).length:=by simp
       have hr:=run_append_grow (P:=P) w t ty e i z hu hi hz ⟨b,o,none⟩ _ _ ad f3 (fun j u hu=>by rw[iv];exact bS j u hu) ⟨b2,o2,none⟩ _ c G hl (fun j u hu=>by rw[iv];exact bk j u hu) I (by omega) (growslice_fits I h2);have bl:=grownCap_ge w ((e0::et).length+(c0::ct).length) (e0::et).length e;have bZ:grownCap w ((e0::et).length+(c0::ct).length) (e0::et).length e<=maxLen:=grownCap_le_maxLen w _ _ e (by unfold maxLen;omega);refine⟨_,_,e,hr,.inr ⟨by rw[List.length_append,f3,hl,Nat.add_mul],.inr ⟨w.heap.size,_,_,rfl,Nat.zero_le _,heap_alloc_new w.drew _,bl,bZ,?_,?_⟩⟩,⟨rfl,rfl,rfl,by simp,fun k hk=>Below.heap_alloc w.drew _ k hk⟩,.inl ?_⟩
       ·simp only[Array.size_append,List.size_toArray,size_zeroCells,b4,f3,hl,<- Nat.add_mul];congr 1;omega
       ·have:(ad++G).length=((e0::et).length+(c0::ct).length)*i.size:=by rw[List.length_append,f3,hl,Nat.add_mul]
        simp only[Array.toList_append];rw[<- this];exact List.take_left
       ·obtain⟨k,hk⟩:∃k,grownCap w ((e0::et).length+(c0::ct).length) (e0::et).length e=k+1:=⟨grownCap w ((e0::et).length+(c0::ct).length) (e0::et).length e - 1,by simp at bl⊢;omega⟩;rw[hk];rfl
      ·cases h
     ·cases h
    ·cases h
def K7{t:Nat}{parts:Array (Nat×Operand)}{e sz v:Nat}(ht:eQ P t=some (e,sz,v))(hp:parts.toList=[]):dM P γ env fr ⟨dst,.buildSlice t 0 parts,ty,pos,after,g⟩ (.ls fr.length) (fr++[.row false false sz []]) []:=vL fun κ L a w hC U=>by
 obtain⟨i,z,V,J,hz,rfl,rfl,Z,G⟩:=rH ht;obtain rfl:parts=#[]:=by simpa using hp
 have D:(Instr.buildSlice t 0 #[]).run P w=.ok (.slice (some ⟨w.heap.size,0,none⟩) 0 0) (w.alloc (.cells #[] e)):=by
  unfold Instr.buildSlice;simp[run_underlying V,jO J,Sem.run_bind,Instr.fill,newRow,newObj,pure,Sem.run];congr 2;apply Array.ext
  ·simp
  ·intro k h1 _;simp at h1
 have I:execOp a.eval ⟨dst,.buildSlice t 0 #[],ty,pos,after,g⟩=(do pure (.value (<- Instr.buildSlice t 0 ((#[]:Array (Nat×Operand)).map fun(i,x)=>(i,a.eval x))))):=rfl;have u:(execOp a.eval ⟨dst,.buildSlice t 0 #[],ty,pos,after,g⟩).run P w=.ok (.value (.slice (some ⟨w.heap.size,0,none⟩) 0 0)) (w.alloc (.cells #[] e)):=fJ I (by rw[Array.map_empty];exact D);have y:Below w.heap.size w (w.alloc (.cells #[] e)):=(Below.refl _ _).alloc (Nat.le_refl _) _;exact⟨e,_,[],_,u,y,.inl ⟨rfl,rfl,_,rfl⟩,by rw[List.length_nil];omega,cd.nil,fun b y=>by cases y⟩
def HA{op:Op}{x:SV}{fr':Fr}(h:x_ P env fr op=some (x,fr')):dM P γ env fr ⟨dst,op,ty,pos,after,g⟩ x fr' []:=by
 unfold x_ at h;split at h
 ·rename_i t len v;split at h
  ·rename_i D;split at h
   ·rename_i c Z I;cases h;refine vL fun κ L a w hC U=>?_
    obtain⟨e,sz,us,h1,ab,hl,h2,h3,h4,h5⟩:=BB (A:=MA κ.M fr L) (L:=L) (w:=w) I (vs:=(v.map fun(i,x)=>(i,a.eval x)).toList) (by simp) fun k p q z G=>by
      rw[Array.toList_map,List.getElem?_map]at G;rw[List.getElem?_map]at z
      cases J:v.toList[k]? with
      |none=>rw[J]at G;cases G
      |some y=>
       rw[J]at G z;cases G;cases z;refine⟨rfl,qB (U y.2 ?_) (List.all_eq_true.1 (List.all_eq_true.1 D y (List.mem_of_getElem? J)))⟩;have:=List.mem_of_getElem? J;simp[Op.operands];exact⟨y.1,by simpa using this⟩
    have V:c.length=sz:=h4 0 c rfl;rw[V];refine⟨e,_,us.toList,_,fJ rfl h1,(Below.refl _ _).alloc (Nat.le_refl _) _,?_,by omega,⟨h4,fun k j Z x z hj=>?_⟩,fun b I=>?_⟩
    ·rw[h3];refine .inr ⟨by simpa using h2,.inr ⟨w.heap.size,len,us,rfl,Nat.zero_le _,by show(w.heap.push _)[w.heap.size]?=_;exact Array.getElem?_push_size,Nat.le_refl _,by unfold maxLen;omega,h2,?_⟩⟩;rw[<- h2,<- Array.length_toList,List.take_length]
    ·obtain⟨u,e1,e2⟩:=h5 k j Z x z hj;exact⟨u,by simpa using e1,e2⟩
    ·cases len with
     |zero=>cases I
     |succ k=>cases I;exact⟨Nat.le_refl _,by simp⟩
   ·cases h
  ·cases h
 ·cases h
def DE{fr0:Fr}{t:Nat}{l c:Operand}{x:SV}{fr':Fr}{ks:List Nat}(h:gZ P fr0 t (rd env l) (rd env c)=some (x,fr',ks)):∃(sz:Nat) (es:List (List AV)),x=.ls fr0.length/\fr'=fr0++[.row false false sz es]/\ks=[]/\∀(κ:Ctx) (L:Ls) (a:Act) (w:World),ar γ κ fr L w->(∀y∈(Op.makeSlice t l c).operands,SR (MA κ.M fr L) L w (rd env y) (a.eval y))->∃(T:TypeId) (v:Value) (us:List Value) (w':World),(execOp a.eval ⟨dst,.makeSlice t l c,ty,pos,after,g⟩).run P w=.ok (.value v) w'/\Below w.heap.size w w'/\cm w' T sz v es.length us/\es.length<=140737488351232/\cd (MA κ.M fr L) w sz es us/\∀b,bv v=some b->w.heap.size<=b/\b <w'.heap.size:=by
 unfold gZ at h;split at h
 ·rename_i e hu;split at h
  ·rename_i i hi;split at h
   ·rename_i z hz;split at h
    ·rename_i zs av hd;have hd:=of_decide_eq_true hd;split at h
     ·rename_i m n hl hc;split at h
      ·rename_i u;cases h;simp only[Bool.and_eq_true,Nat.ble_eq,decide_eq_true_eq]at u;obtain⟨⟨⟨h0,ap⟩,ax⟩,hn⟩:=u;refine⟨i.size,List.replicate m.toNat zs,rfl,rfl,rfl,fun κ L a w hC ag=>?_⟩;have h1:=ag l (by simp[Op.operands]);have h2:=ag c (by simp[Op.operands]);rw[hl]at h1;rw[hc]at h2;have h1:=QT h1;have h2:=QT h2
       have U:(i.bytes:Int)*n<=281474976710656:=by
        have e1:((n.toNat*i.bytes:Nat):Int)<=281474976710656:=by omega
        rw[Int.natCast_mul,Int.toNat_of_nonneg (by omega),Int.mul_comm]at e1;exact e1
       have hr:=run_make (P:=P) w t e i z hu hi hz .i64 .i64 m n h0 ap U (by omega);have V:(madeCells z.cells (n.toNat*i.size)).size=n.toNat*i.size:=size_madeCells _ _;have D:m.toNat<=n.toNat:=by omega
       obtain⟨z1,z2⟩:=rD (A:=MA κ.M fr L) (L:=L) (w:=w) av;have al:zs.length=i.size:=by rw[<- z1,List.length_map,Array.length_toList,hd.1]
       have I:(List.replicate m.toNat zs).length=m.toNat:=List.length_replicate
       have an:∀q,q <m.toNat*i.size->((madeCells z.cells (n.toNat*i.size)).toList.take (m.toNat*i.size))[q]?=some (z.cells.getD (q %i.size) undef):=fun q J=>by
        have au:q <n.toNat*i.size:=Nat.lt_of_lt_of_le J (Nat.mul_le_mul_right _ D);have ad:q %i.size <z.cells.size:=by rw[hd.1];exact Nat.mod_lt _ hd.2
        rw[List.getElem?_take,if_pos J,Array.getElem?_toList];unfold madeCells;rw[Array.getElem?_map,Array.getElem?_range];simp only[au,if_true,Option.map_some,hd.1];rw[Array.getD_eq_getD_getElem?,Array.getElem?_eq_getElem ad,getElem!_pos z.cells _ ad];rfl
       refine⟨e,_,(madeCells z.cells (n.toNat*i.size)).toList.take (m.toNat*i.size),_,fJ rfl (by rw[h1,h2];exact hr),(Below.refl _ _).alloc (Nat.le_refl _) _,?_,by rw[I];omega,⟨fun k cs G=>?_,fun k j cs x G hj=>?_⟩,fun b U=>?_⟩
       ·rw[I];refine .inr ⟨by rw[List.length_take,Array.length_toList,V];exact Nat.min_eq_left (Nat.mul_le_mul_right _ D),.inr ⟨w.heap.size,n.toNat,_,rfl,Nat.zero_le _,by show(w.heap.push _)[w.heap.size]?=_;exact Array.getElem?_push_size,D,by unfold maxLen;omega,V,rfl⟩⟩
       ·rw[List.getElem?_replicate]at G;split at G
        ·cases G;exact al
        ·cases G
       ·rw[List.getElem?_replicate]at G;split at G
        ·rename_i ao;cases G;have Z:j <i.size:=by rw[<- al];exact aC hj
         have J:k*i.size+j <m.toNat*i.size:=by
          have:(k+1)*i.size<=m.toNat*i.size:=Nat.mul_le_mul_right _ ao;rw[Nat.add_mul]at this;omega
         refine⟨_,an _ J,?_⟩;have e2:(k*i.size+j) %i.size=j:=by rw[Nat.mul_comm,Nat.mul_add_mod,Nat.mod_eq_of_lt Z]
         rw[e2];have ab:j <z.cells.size:=by rw[hd.1];exact Z
         refine z2 j (cv z.cells[j]) x _ (by rw[List.getElem?_map,Array.getElem?_toList,Array.getElem?_eq_getElem ab];rfl) hj ?_;rw[Array.getD_eq_getD_getElem?,Array.getElem?_eq_getElem ab];exact j6 _
        ·cases G
       ·cases J:n.toNat with
        |zero=>rw[J]at U;cases U
        |succ k=>rw[J]at U;cases U;exact⟨Nat.le_refl _,by simp⟩
      ·cases h
     ·cases h
    ·cases h
   ·cases h
  ·cases h
 ·cases h
def LG{t:Nat}{l c:Operand}{x:SV}{fr':Fr}{ks:List Nat}(h:gZ P fr t (rd env l) (rd env c)=some (x,fr',ks)):dM P γ env fr ⟨dst,.makeSlice t l c,ty,pos,after,g⟩ x fr' ks:=by
 obtain⟨sz,v,rfl,rfl,rfl,u⟩:=DE (γ:=γ) (fr:=fr) (dst:=dst) (ty:=ty) (pos:=pos) (after:=after) (g:=g) h;exact vL u
def LF{t:Nat}{l c:Operand}{x:SV}{fr':Fr}{ks:List Nat}(h:tv P fr t (rd env l) (rd env c)=some (x,fr',ks)):dM P γ env fr ⟨dst,.makeSlice t l c,ty,pos,after,g⟩ x fr' ks:=by
 unfold tv at h;split at h
 ·rename_i v;cases h;obtain⟨sz,z,_,u,_,y⟩:=DE (γ:=γ) (fr:=fr) (dst:=dst) (ty:=ty) (pos:=pos) (after:=after) (g:=g) v;cases u;exact L4 y
 ·cases h
end
section
variable {P:Program} {γ:Glob} {fr:Fr} {env:Env} {dst:Option Tmp} {ty:TypeId} {pos:String} {after:Array Edge} {g:Option (Nat×Bool)}
def LD{t:Nat}:dM P γ env fr ⟨dst,.makeMap t none,ty,pos,after,g⟩ (.lm fr.length) (fr++[.map false [] []]) []:=fun κ L a w I U=>by
 have z:Below w.heap.size w (w.alloc (.map #[] 0)):=(Below.refl _ _).alloc (Nat.le_refl _) _;obtain⟨y,G⟩:=I.push z (.map false [] []) (.map (some w.heap.size)) (fun b J=>by cases J;exact⟨Nat.le_refl _,by simp⟩) fun G=>⟨w.heap.size,#[],0,cb,by show(w.heap.push (.map #[] 0))[w.heap.size]?=_;exact Array.getElem?_push_size,rfl,rfl,fun j x u D _=>by simp at D,fun j x u D _=>by simp at D,gS.nil _⟩;exact .nK (v:=.map (some w.heap.size)) (by simp[execOp,Instr.makeMap,Sem.run_bind,newObj,pure,Sem.run]) ⟨_,G,y,.lm _ _ cb⟩
def fc(w:World)(r:Nat)(o:Obj):World:={w with heap:=w.heap.setIfInBounds r o}
def wm{w:World}{r:Nat}{o:Obj}(h:r <w.heap.size):(fc w r o).heap[r]?=some o:=by
 show(w.heap.setIfInBounds r o)[r]?=_
 rw[Array.getElem?_setIfInBounds_self_of_lt h]
def Ak(w:World)(r:Nat)(o:Obj):w.grownBy (fc w r o) (some r):=⟨rfl,rfl,rfl,by simp[fc],fun k _ u=>by
 show(w.heap.setIfInBounds r o)[k]?=_
 rw[Array.getElem?_setIfInBounds_ne (fun e=>u (by rw[e]))]⟩
def xu(a b:ByteArray):(a==b)=decide (a=b):=by
 obtain⟨x⟩:=a;obtain⟨y⟩:=b;show(x==y)=_
 by_cases h:x=y <;>simp[h]
def IW{d:TypeDesc}{k x:AV}(h:jx d [k] [x]=some true):k=x:=by
 unfold jx at h;split at h
 ·rename_i u v;cases u;cases v;split at h
  ·rename_i y;subst y;simp at h;rw[h]
  ·cases h
 ·rename_i u v;cases u;cases v;simp at h;rw[h]
 ·rename_i u v;cases u;cases v;rw[xu]at h;simp at h;rw[h]
 ·cases h
def Oa{A:Nat->Prop}{w:World}{d:TypeDesc}{k:AV}{u v:Value}(h:s8 d k=true)(y:VR A w k u)(hv:VR A w k v)(n:Nat):Instr.sameBits (n+1) u v=true:=by
 unfold s8 at h;split at h
 ·cases y;cases hv;simp[Instr.sameBits]
 ·cases y;cases hv;simp[Instr.sameBits]
 ·cases y;cases hv;simp[Instr.sameBits,xu]
 ·cases h
theorem wj:∀(xs u:List AV),jc xs u=true->xs=u
 |[],[],_=>rfl
 | .int k m::xs,.int j n::u,h=>by
  unfold jc at h;simp only[Bool.and_eq_true,decide_eq_true_eq]at h;rw[h.1,h.2.1,wj xs u h.2.2]
 | .bool a::xs,.bool b::u,h=>by
  unfold jc at h;simp only[Bool.and_eq_true,beq_iff_eq]at h;rw[h.1,wj xs u h.2]
 | .str a::xs,.str b::u,h=>by
  unfold jc at h;simp only[Bool.and_eq_true,decide_eq_true_eq]at h;rw[h.1,wj xs u h.2]
theorem Fz{A:Nat->Prop}{w:World}(n:Nat):∀(xs:List AV) (us vs:List Value),jc xs xs=true->us.length=xs.length->vs.length=xs.length->(∀(j:Nat) (x:AV) (u:Value),xs[j]?=some x->us[j]?=some u->VR A w x u)->(∀(j:Nat) (x:AV) (u:Value),xs[j]?=some x->vs[j]?=some u->VR A w x u)->((us.zip vs).all fun(x,y)=>Instr.sameBits (n+1) x y)=true
 |[],[],[],_,_,_,_,_=>rfl
 |x::xs,u::us,v::vs,h,h1,h2,I,J=>by
  have G:=fun h=>Fz n xs us vs h (by simpa using h1) (by simpa using h2) (fun j x u D z=>I (j+1) x u D z) (fun j x u D z=>J (j+1) x u D z);have h3:=I 0 x u rfl rfl;have h4:=J 0 x v rfl rfl;rw[List.zip_cons_cons,List.all_cons,Bool.and_eq_true]
  cases x with
  |int k m=>
   unfold jc at h;simp only[Bool.and_eq_true,decide_eq_true_eq]at h;refine⟨?_,G h.2.2⟩;cases h3;cases h4;simp[Instr.sameBits]
  |bool b=>
   unfold jc at h;simp only[Bool.and_eq_true,beq_iff_eq]at h;refine⟨?_,G h.2⟩;cases h3;cases h4;simp[Instr.sameBits]
  |str s=>
   unfold jc at h;simp only[Bool.and_eq_true,decide_eq_true_eq]at h;refine⟨?_,G h.2⟩;cases h3;cases h4;simp[Instr.sameBits,xu]
  |_=>unfold jc at h;cases h
 |[],_::_,_,_,h,_,_,_=>by simp at h
 |[],[],_::_,_,_,h,_,_=>by simp at h
 |_::_,[],_,_,h,_,_,_=>by simp at h
 |_::_,_::_,[],_,_,h,_,_=>by simp at h
def Ob{A:Nat->Prop}{w:World}{xs:List AV}{u v:Value}(h:jc xs xs=true)(y:VR A w (.agg xs) u)(hv:VR A w (.agg xs) v)(n:Nat):Instr.sameBits (n+2) u v=true:=by
 cases y with
 |agg _ us hl1 hr1=>
  cases hv with
  |agg _ vs hl2 hr2=>
   unfold Instr.sameBits;rw[Bool.and_eq_true];refine⟨by simp[hl1,hl2],Fz n xs us.toList vs.toList h (by simpa using hl1) (by simpa using hl2) (fun j x u z y=>hr1 j x u z (by simpa using y)) (fun j x u z y=>hr2 j x u z (by simpa using y))⟩
def Kb{t:Nat}{m k y:Operand}{op:Op}{x:SV}{fr':Fr}{ks:List Nat}(Z:op=.insert t m k y\/op=.mapUpdate t m k y)(h:yE P fr t (rd env m) (rd env k) (rd env y)=some (x,fr',ks)):dM P γ env fr ⟨dst,op,ty,pos,after,g⟩ x fr' ks:=fun κ L a w hC au=>by
 have ap:execOp a.eval ⟨dst,op,ty,pos,after,g⟩=(do Instr.mapUpdate t (a.eval m) (a.eval k) (a.eval y);pure .skip):=by rcases Z with rfl|rfl <;>rfl
 have hm:=cu (au m (by rcases Z with rfl|rfl <;>simp[Op.operands]));have hk:=cu (au k (by rcases Z with rfl|rfl <;>simp[Op.operands]));have hy:=cu (au y (by rcases Z with rfl|rfl <;>simp[Op.operands]));unfold yE at h;split at h
 ·cases h
 ·rename_i e kt n ht;obtain⟨fs,aX,ag,aR,aB⟩:=DH ht;split at h
  ·rename_i i cs bb a6;rw[bb]at hm;rw[a6]at hk;have ad:VR (MA κ.M fr L) w (.agg cs) (a.eval k):=by cases hk with|t _ _ h=>exact h
   obtain⟨us,aT,al⟩:∃us,a.eval k=.agg us/\ma (MA κ.M fr L) w cs us:=by
    generalize a.eval k=z at ad;cases ad with|agg _ us h1 h2=>exact⟨us,rfl,h1,h2⟩
   split at h
   ·rename_i dY bd hi;split at h
    ·cases h
    ·rename_i a1;have aA:cs.length=n:=by simpa using a1
     obtain⟨r,G,I,h1,h2,h3,h4,h5,h6,aN⟩:=hC.blk i _ hi
     have hv:a.eval m=.map (some r):=by
      generalize a.eval m=z at hm
      cases hm with
      |lm _ r' hL=>rw[h1]at hL;cases hL;rfl
     have an:=(Array.getElem?_eq_some_iff.1 h2).1;have hg:(getObj r).run P w=.ok (.map G I) w:=by simp[getObj,Sem.run,h2]
     have ao:∀(es:Array MapEntry) (c:Nat),(setObj r (.map es c)).run P w=.ok () (fc w r (.map es c)):=fun es c=>by simp[setObj,Sem.run,h2,fc]
     have step:∀(es:Array MapEntry) (c:Nat) (U:List AV) (V:List SV),(Instr.mapUpdate t (a.eval m) (a.eval k) (a.eval y)).run P w=.ok () (fc w r (.map es c))->es.size=U.length->es.size=V.length->(∀(j:Nat) (x:AV) (e:MapEntry),U[j]?=some x->es[j]?=some e->VR (MA κ.M fr L) w x e.key)->(∀(j:Nat) (x:SV) (e:MapEntry),V[j]?=some x->es[j]?=some e->SR (MA κ.M fr L) L w x e.val)->gS es c->
       cN P ⟨dst,op,ty,pos,after,g⟩ a w fun v w'=>∃L',Tr κ.M fr L w (fr.set i (.map false U V)) L' w' []/\ar γ κ (fr.set i (.map false U V)) L' w'/\SR (MA κ.M (fr.set i (.map false U V)) L') L' w' .dead v:=fun es c U V aG e1 e2 e3 e4 e5=>by
      obtain⟨aY,hT⟩:=hC.nU (w':=fc w r (.map es c)) (ks:=[]) (v':=.map (some r)) (lb':=.map false U V) hi rfl h1 (Ak w r _) (.inl rfl) (fun b hb=>by cases hb;simp[fc];exact an) (.inl rfl) (fun _=>rfl) fun hT=>⟨r,es,c,cb,wm an,e1,e2,fun j x u hx hu=>hT.vr (e3 j x u hx hu),fun j x u hx hu=>by rw[ur h1]at hT⊢;exact hT.sr (e4 j x u hx hu),e5⟩;unfold cN;rw[ap,Sem.run_bind,aG];exact⟨_,hT,aY,.dead _⟩
     split at h
     ·cases h
     ·rename_i j hf;rcases tL aR al dY G.toList 0 _ (by simpa using h3.symm) (fun j x e hx D=>h5 j x e hx (by simpa using D)) hf with⟨h7,_⟩|⟨j',e',h7,h8,h9⟩
      ·cases h7
      ·rw[Nat.zero_add]at h7 h9;cases h7;split at h
       ·rename_i ds ax;split at h
        ·rename_i aM;cases h;obtain rfl:=wj _ _ aM;have ab:G[j]?=some e':=by simpa using h8
         have av:Instr.sameBits 10000 e'.key (a.eval k)=true:=Ob aM (h5 j _ e' ax ab) ad 9998
         have aF:(Instr.keyThatStays (((G[j]?).map (·.key)).getD (a.eval k)) (a.eval k)).run P w=.ok (a.eval k) w:=by
          rw[ab];show(Instr.keyThatStays e'.key (a.eval k)).run P w=_
          unfold Instr.keyThatStays;rw[av];rfl
         refine step (G.modify j fun e=>{e with key:=a.eval k,val:=a.eval y}) I _ _ ?_ (by simpa using h3) (by simpa using h4) (fun q z e J D=>?_) (fun q z e J D=>?_) (aN.modify _ _ _)
         ·unfold Instr.mapUpdate;rw[Sem.run_bind,run_underlying aX,Result.andThen_ok,hv];rw[aT]at aF⊢;simp only[Sem.run_bind,hg,Result.andThen_ok,Rc ag aB al aA,we ag h9,aF,ao]
         ·rw[Array.getElem?_modify]at D;split at D
          ·rename_i hq;subst hq;rw[ab]at D;rw[ax]at J;cases D;cases J;exact ad
          ·exact h5 q z e J D
         ·rw[Array.getElem?_modify]at D;split at D
          ·rename_i hq;subst hq;rw[ab]at D;rw[List.getElem?_set_self (by rw[<- h4];exact(Array.getElem?_eq_some_iff.1 ab).1)]at J;cases D;cases J;exact hy
          ·rename_i hq;rw[List.getElem?_set_ne hq]at J;exact h6 q z e J D
        ·cases h
       ·cases h
     ·rename_i hf;cases h;rcases tL aR al dY G.toList 0 _ (by simpa using h3.symm) (fun j x e hx D=>h5 j x e hx (by simpa using D)) hf with⟨_,h7⟩|⟨j',e',h7,_⟩
      ·refine step (G.push {key:=a.eval k,val:=a.eval y,born:=I}) (I+1) _ _ ?_ (by simp[h3]) (by simp[h4]) (fun q z e J D=>?_) (fun q z e J D=>?_) (aN.push _ _)
       ·unfold Instr.mapUpdate;rw[Sem.run_bind,run_underlying aX,Result.andThen_ok,hv];rw[aT];simp only[Sem.run_bind,hg,Result.andThen_ok,Rc ag aB al aA,we ag h7,ao]
       ·rw[Array.getElem?_push]at D;split at D
        ·rename_i hq;rw[hq,h3,List.getElem?_append_right (Nat.le_refl _),Nat.sub_self]at J;cases D;cases J;exact ad
        ·rename_i hq;have:=(Array.getElem?_eq_some_iff.1 D).1;rw[List.getElem?_append_left (by omega)]at J;exact h5 q z e J D
       ·rw[Array.getElem?_push]at D;split at D
        ·rename_i hq;rw[hq,h4,List.getElem?_append_right (Nat.le_refl _),Nat.sub_self]at J;cases D;cases J;exact hy
        ·rename_i hq;have:=(Array.getElem?_eq_some_iff.1 D).1;rw[List.getElem?_append_left (by omega)]at J;exact h6 q z e J D
      ·cases h7
   ·cases h
  ·cases h
def C2{t:Nat}{m k y:Operand}{op:Op}{x:SV}{fr':Fr}{ks:List Nat}(U:op=.insert t m k y\/op=.mapUpdate t m k y)(h:q7 P fr t (rd env m) (rd env k) (rd env y)=some (x,fr',ks)):dM P γ env fr ⟨dst,op,ty,pos,after,g⟩ x fr' ks:=fun κ L a w hC ag=>by
 have ap:execOp a.eval ⟨dst,op,ty,pos,after,g⟩=(do Instr.mapUpdate t (a.eval m) (a.eval k) (a.eval y);pure .skip):=by rcases U with rfl|rfl <;>rfl
 have hm:=cu (ag m (by rcases U with rfl|rfl <;>simp[Op.operands]));have hk:=cu (ag k (by rcases U with rfl|rfl <;>simp[Op.operands]));have hy:=cu (ag y (by rcases U with rfl|rfl <;>simp[Op.operands]));unfold q7 at h;split at h
 ·exact Kb U h κ L a w hC ag
 ·rename_i e d ht;obtain⟨kt,aB,al,hl⟩:=yV ht;split at h
  ·rename_i i ka aR aN;rw[aR]at hm;rw[aN]at hk;have ad:VR (MA κ.M fr L) w ka (a.eval k):=by cases hk with|t _ _ h=>exact h
   split at h
   ·rename_i dY aT hi;split at h
    ·cases h
    ·rename_i hd;obtain⟨r,G,I,h1,h2,h3,h4,h5,h6,aA⟩:=hC.blk i _ hi
     have hv:a.eval m=.map (some r):=by
      generalize a.eval m=z at hm
      cases hm with
      |lm _ r' hL=>rw[h1]at hL;cases hL;rfl
     have an:=(Array.getElem?_eq_some_iff.1 h2).1;have hg:(getObj r).run P w=.ok (.map G I) w:=by simp[getObj,Sem.run,h2]
     have ao:∀(es:Array MapEntry) (c:Nat),(setObj r (.map es c)).run P w=.ok () (fc w r (.map es c)):=fun es c=>by simp[setObj,Sem.run,h2,fc]
     have step:∀(es:Array MapEntry) (c:Nat) (V:List AV) (Z:List SV),(Instr.mapUpdate t (a.eval m) (a.eval k) (a.eval y)).run P w=.ok () (fc w r (.map es c))->es.size=V.length->es.size=Z.length->(∀(j:Nat) (x:AV) (e:MapEntry),V[j]?=some x->es[j]?=some e->VR (MA κ.M fr L) w x e.key)->(∀(j:Nat) (x:SV) (e:MapEntry),Z[j]?=some x->es[j]?=some e->SR (MA κ.M fr L) L w x e.val)->gS es c->
       cN P ⟨dst,op,ty,pos,after,g⟩ a w fun v w'=>∃L',Tr κ.M fr L w (fr.set i (.map false V Z)) L' w' []/\ar γ κ (fr.set i (.map false V Z)) L' w'/\SR (MA κ.M (fr.set i (.map false V Z)) L') L' w' .dead v:=fun es c V Z ax e1 e2 e3 e4 e5=>by
      obtain⟨aG,hT⟩:=hC.nU (w':=fc w r (.map es c)) (ks:=[]) (v':=.map (some r)) (lb':=.map false V Z) hi rfl h1 (Ak w r _) (.inl rfl) (fun b hb=>by cases hb;simp[fc];exact an) (.inl rfl) (fun _=>rfl) fun hT=>⟨r,es,c,cb,wm an,e1,e2,fun j x u hx hu=>hT.vr (e3 j x u hx hu),fun j x u hx hu=>by rw[ur h1]at hT⊢;exact hT.sr (e4 j x u hx hu),e5⟩;unfold cN;rw[ap,Sem.run_bind,ax];exact⟨_,hT,aG,.dead _⟩
     split at h
     ·cases h
     ·rename_i j hf;cases h;rcases qO ad dY G.toList 0 _ (by simpa using h3.symm) (fun j x e hx D=>h5 j x e hx (by simpa using D)) hf with⟨h7,_⟩|⟨j',e',h7,h8,h9,x0,av,aF⟩
      ·cases h7
      ·rw[Nat.zero_add]at h7 h9;cases h7;obtain rfl:=IW aF;have ab:G[j]?=some e':=by simpa using h8
       have au:=Oa hd (h5 j _ e' av ab) ad 9999
       have aM:(Instr.keyThatStays (((G[j]?).map (·.key)).getD (a.eval k)) (a.eval k)).run P w=.ok (a.eval k) w:=by
        rw[ab];show(Instr.keyThatStays e'.key (a.eval k)).run P w=_
        unfold Instr.keyThatStays;rw[au];rfl
       refine step (G.modify j fun e=>{e with key:=a.eval k,val:=a.eval y}) I _ _ ?_ (by simpa using h3) (by simpa using h4) (fun q z e J D=>?_) (fun q z e J D=>?_) (aA.modify _ _ _)
       ·unfold Instr.mapUpdate;rw[Sem.run_bind,run_underlying aB,Result.andThen_ok,hv];simp only[Sem.run_bind,hg,Result.andThen_ok,run_checkKey al hl,run_findKey al h9,aM,ao]
       ·rw[Array.getElem?_modify]at D;split at D
        ·rename_i hq;subst hq;rw[ab]at D;rw[av]at J;cases D;cases J;exact ad
        ·exact h5 q z e J D
       ·rw[Array.getElem?_modify]at D;split at D
        ·rename_i hq;subst hq;rw[ab]at D;rw[List.getElem?_set_self (by rw[<- h4];exact(Array.getElem?_eq_some_iff.1 ab).1)]at J;cases D;cases J;exact hy
        ·rename_i hq;rw[List.getElem?_set_ne hq]at J;exact h6 q z e J D
     ·rename_i hf;cases h;rcases qO ad dY G.toList 0 _ (by simpa using h3.symm) (fun j x e hx D=>h5 j x e hx (by simpa using D)) hf with⟨_,h7⟩|⟨j',e',h7,_⟩
      ·refine step (G.push {key:=a.eval k,val:=a.eval y,born:=I}) (I+1) _ _ ?_ (by simp[h3]) (by simp[h4]) (fun q z e J D=>?_) (fun q z e J D=>?_) (aA.push _ _)
       ·unfold Instr.mapUpdate;rw[Sem.run_bind,run_underlying aB,Result.andThen_ok,hv];simp only[Sem.run_bind,hg,Result.andThen_ok,run_checkKey al hl,run_findKey al h7,ao]
       ·rw[Array.getElem?_push]at D;split at D
        ·rename_i hq;rw[hq,h3,List.getElem?_append_right (Nat.le_refl _),Nat.sub_self]at J;cases D;cases J;exact ad
        ·rename_i hq;have:=(Array.getElem?_eq_some_iff.1 D).1;rw[List.getElem?_append_left (by omega)]at J;exact h5 q z e J D
       ·rw[Array.getElem?_push]at D;split at D
        ·rename_i hq;rw[hq,h4,List.getElem?_append_right (Nat.le_refl _),Nat.sub_self]at J;cases D;cases J;exact hy
        ·rename_i hq;have:=(Array.getElem?_eq_some_iff.1 D).1;rw[List.getElem?_append_left (by omega)]at J;exact h6 q z e J D
      ·cases h7
   ·cases h
  ·cases h
def rU(es:Array MapEntry)(j:Nat):(es.eraseIdxIfInBounds j).toList=es.toList.eraseIdx j:=by
 unfold Array.eraseIdxIfInBounds;split
 ·simp
 ·rename_i h;rw[List.eraseIdx_of_length_le (by simpa using h)]
def gS.erase{es:Array MapEntry}{u:Nat}(h:gS es u)(j:Nat):gS (es.eraseIdxIfInBounds j) u where
 up:=by
  rw[rU];exact h.up.sublist ((List.eraseIdx_sublist es.toList j).map _)
 lt:=fun e v=>by
  rw[rU]at v;exact h.lt e (List.mem_of_mem_eraseIdx v)
def xY{es:Array MapEntry}{j q:Nat}{e:MapEntry}(h:(es.eraseIdxIfInBounds j)[q]?=some e):if q <j then es[q]?=some e else es[q+1]?=some e:=by
 rw[<- Array.getElem?_toList,rU,List.getElem?_eraseIdx]at h;split at h <;>rename_i u
 ·rw[if_pos u];simpa using h
 ·rw[if_neg u];simpa using h
def xZ{α:Type}{xs:List α}{j q:Nat}{x:α}(h:(xs.eraseIdx j)[q]?=some x):if q <j then xs[q]?=some x else xs[q+1]?=some x:=by
 rw[List.getElem?_eraseIdx]at h;split at h <;>rename_i u
 ·rw[if_pos u];exact h
 ·rw[if_neg u];exact h
def Jf{m k:Operand}{t u:Nat}{tys:Array TypeId}{args:Array Operand}{a:Act}{w w':World}(v:args.toList=[m,k])(y:tys.toList=[t,u])(h:(Builtin.delete_ #[t,u] ty #[a.eval m,a.eval k]).run P w=.ok (.tuple #[]) w'):(execOp a.eval ⟨dst,.call ⟨.builtin .delete,args,tys⟩,ty,pos,after,g⟩).run P w=.ok (.value (.tuple #[])) w':=by
 obtain⟨args⟩:=args;obtain⟨tys⟩:=tys;simp only at v y;subst v y;simp only[execOp,resolve,invoke,builtin,Sem.run_bind,Sem.run_pure,Result.andThen_ok,List.map_toArray,List.map_cons,List.map_nil,h]
def cd.lay{A:Nat->Prop}{w:World}{sz a:Nat}{es zs:List (List AV)}{us zu:List Value}(h:cd A w sz es us)(J:us.length=es.length*sz)(hz:cd A w sz zs zu)(U:zu.length=zs.length*sz)(I:a+zs.length<=es.length):
  cd A w sz (es.take a++zs++es.drop (a+zs.length)) (fw us (a*sz) zu):=by
 have D:∀(k:Nat) (u:List AV),(es.take a++zs++es.drop (a+zs.length))[k]?=some u->(k <a/\es[k]?=some u)\/(a<=k/\k <a+zs.length/\zs[k - a]?=some u)\/(a+zs.length<=k/\es[k]?=some u):=fun k u v=>by
  have y:(es.take a).length=a:=by rw[List.length_take];omega
  rw[List.getElem?_append]at v;split at v
  ·rename_i h1;rw[List.length_append,y]at h1;rw[List.getElem?_append]at v;split at v
   ·rename_i h2;rw[y]at h2;rw[List.getElem?_take,if_pos h2]at v;exact .inl ⟨h2,v⟩
   ·rename_i h2;rw[y]at h2 v;exact .inr (.inl ⟨by omega,h1,v⟩)
  ·rename_i h1;rw[List.length_append,y]at h1 v;rw[List.getElem?_drop]at v;exact .inr (.inr ⟨by omega,by rwa[show a+zs.length+(k - (a+zs.length))=k by omega]at v⟩)
 have V:a*sz+zs.length*sz<=us.length:=by rw[J,<- Nat.add_mul];exact Nat.mul_le_mul_right _ I
 refine⟨fun k u v=>?_,fun k j u x v z=>?_⟩
 ·rcases D k u v with⟨_,h2⟩|⟨_,_,h2⟩|⟨_,h2⟩
  ·exact h.1 k u h2
  ·exact hz.1 _ u h2
  ·exact h.1 k u h2
 ·rw[zE _ _ _ _ (by omega),U];rcases D k u v with⟨h1,h2⟩|⟨h1,h2,h3⟩|⟨h1,h2⟩
  ·have G:j <sz:=by rw[<- h.1 k u h2];exact aC z
   have:(k+1)*sz<=a*sz:=Nat.mul_le_mul_right _ h1;rw[Nat.add_mul]at this;rw[if_neg (by omega)];exact h.2 k j u x h2 z
  ·have G:j <sz:=by rw[<- hz.1 _ u h3];exact aC z
   obtain⟨q,rfl⟩:∃q,k=a+q:=⟨k - a,by omega⟩;rw[Nat.add_sub_cancel_left]at h3;have:(q+1)*sz<=zs.length*sz:=Nat.mul_le_mul_right _ (by omega);rw[Nat.add_mul]at this;rw[Nat.add_mul,if_pos (by omega),show a*sz+q*sz+j - a*sz=q*sz+j by omega];exact hz.2 q j u x h3 z
  ·have G:j <sz:=by rw[<- h.1 k u h2];exact aC z
   have:(a+zs.length)*sz<=k*sz:=Nat.mul_le_mul_right _ h1;rw[Nat.add_mul]at this;rw[if_neg (by omega)];exact h.2 k j u x h2 z
def Cu{x y:Operand}{t u n:Nat}{tys:Array TypeId}{args:Array Operand}{a:Act}{w w':World}(v:args.toList=[x,y])(z:tys.toList=[t,u])(h:(Builtin.copy_ #[t,u] ty #[a.eval x,a.eval y]).run P w=.ok (.int .i64 (n:Int)) w'):(execOp a.eval ⟨dst,.call ⟨.builtin .copy,args,tys⟩,ty,pos,after,g⟩).run P w=.ok (.value (.int .i64 (n:Int))) w':=by
 obtain⟨args⟩:=args;obtain⟨tys⟩:=tys;simp only at v z;subst v z;simp only[execOp,resolve,invoke,builtin,Sem.run_bind,Sem.run_pure,Result.andThen_ok,List.map_toArray,List.map_cons,List.map_nil,h]
def Iw{x y:Operand}{t u:Nat}{args:Array Operand}{tys:Array TypeId}{s:SV}{fr':Fr}{ks:List Nat}(G:args.toList=[x,y])(aB:tys.toList=[t,u])(h:jr P fr t (rd env x) (rd env y)=some (s,fr',ks)):
  dM P γ env fr ⟨dst,.call ⟨.builtin .copy,args,tys⟩,ty,pos,after,g⟩ s fr' ks:=by
 have bu:x∈(Op.call ⟨.builtin .copy,args,tys⟩).operands:=by simp[Op.operands,Call.operands,<- Array.mem_toList_iff,G]
 have bH:y∈(Op.call ⟨.builtin .copy,args,tys⟩).operands:=by simp[Op.operands,Call.operands,<- Array.mem_toList_iff,G]
 unfold jr at h;split at h
 ·cases h
 ·rename_i e sz b7 ht;obtain⟨i,z,hu,hi,hz,rfl,rfl,cl,ax⟩:=rH ht;split at h
  ·cases h
  ·rename_i zs bf;split at h
   ·cases h
   ·rename_i a6
    have row:∀(r sz a0 n:Nat),sz=i.size->nW fr zs r sz a0 n=some (s,fr',ks)->(∀(κ:Ctx) (L:Ls) (w:World) (v:Value),ar γ κ fr L w->SR (MA κ.M fr L) L w (rd env x) v->∃q b m c c',L r=some (.slice q m c)/\(n≠0->q=some ⟨b,0,none⟩/\v=.slice (some ⟨b,a0*sz,none⟩) n c')/\(n=0->∃q,v=.slice q 0 c'))->dM P γ env fr ⟨dst,.call ⟨.builtin .copy,args,tys⟩,ty,pos,after,g⟩ s fr' ks:=fun r sz a0 n b1 D hv=>by
     subst b1;unfold nW at D;split at D
     ·rename_i bi b5 Z hb;split at D
      ·rename_i hc;rw[Bool.and_eq_true,Nat.ble_eq]at hc;obtain rfl:i.size=b5:=by simpa using hc.1
       cases D;intro κ L a w hC bb;obtain⟨q,b,m,c,c',hL,bd,b3⟩:=hv κ L w _ hC (cu (bb x bu));obtain⟨q2,c2,ab,e1,e2,e3,e4,e5⟩:=vM hC ax bf (cu (bb y bH)) a6;obtain⟨T,us,I,au,⟨q0,c0,aG⟩,aY,aX⟩:=fR hC hb hL;cases aG
       have aA:∀{dv:Value} {q':Option Addr} {cc:Nat} {w':World},dv=.slice q' n cc->(∀(bs:Array Value),bs.toList=ab.take (Nat.min zs.length n*i.size)->(match q' with|some ad=>(storeCells ad bs.toList).run P w=.ok () w'|none=>w'=w))->(Builtin.copy_ #[t,u] ty #[dv,a.eval y]).run P w=.ok (.int .i64 ((Nat.min zs.length n:Nat):Int)) w':=fun{dv q' cc w'} ag bZ=>by
        rw[e1,ag]
        have aM:∃bs:Array Value,bs.toList=ab.take (Nat.min zs.length n*i.size)/\(Builtin.firstCells i.size (Nat.min zs.length n) (.slice q2 zs.length c2)).run P w=.ok bs w:=by
         have V:(ab.take (Nat.min zs.length n*i.size)).length=Nat.min zs.length n*i.size:=by
          rw[List.length_take,e3];exact Nat.min_eq_left (Nat.mul_le_mul_right _ (Nat.min_le_left _ _))
         rcases Nat.eq_zero_or_pos ab.length with J|J
         ·have h1:Nat.min zs.length n*i.size=0:=by
           have:zs.length=0:=by
            rcases Nat.eq_zero_or_pos zs.length with h|h
            ·exact h
            ·have:=Nat.mul_pos h ax;omega
           rw[this];simp[Nat.min_def]
          refine⟨#[],by rw[h1];simp,?_⟩
          cases q2 with
          |none=>simp[Builtin.firstCells,pure,Sem.run]
          |some ad=>simp[Builtin.firstCells,h1,loadCells,loadCellsFrom,pure,Sem.run]
         ·obtain⟨b2,o2,rfl,_,aF⟩:=e2 J;refine⟨(ab.take (Nat.min zs.length n*i.size)).toArray,by simp,?_⟩
          exact run_firstCells_some (P:=P) w i.size (Nat.min zs.length n) ⟨b2,o2,none⟩ zs.length c2 _ V fun j v hj=>by
           rw[List.getElem?_take]at hj;split at hj
           ·rw[iv];exact aF j v hj
           ·cases hj
        obtain⟨bs,U,an⟩:=aM;have:=bZ bs U;unfold Builtin.copy_;simp only[List.getElem?_toArray,List.getElem?_cons_zero,List.getElem?_cons_succ,Sem.run_bind,run_underlying hu,Result.andThen_ok,Builtin.lenOf,Sem.run_pure,jO hi,an]
        cases q' with
        |none=>simp only at this;subst this;rfl
        |some ad=>simp only[Sem.run_bind,this,Result.andThen_ok];rfl
       rcases Nat.eq_zero_or_pos (Nat.min zs.length n)with J|J
       ·have e0:zs.take n=[]:=by
         apply List.eq_nil_of_length_eq_zero;rw[List.length_take];simpa[Nat.min_comm]using J
        have e6:Z.take a0++zs.take n++Z.drop (a0+Nat.min zs.length n)=Z:=by rw[e0,J];simp
        have ag:∃q' cc,a.eval x=.slice q' n cc:=by
         rcases Nat.eq_zero_or_pos n with hn|hn
         ·subst hn;obtain⟨q',e'⟩:=b3 rfl;exact⟨q',_,e'⟩
         ·obtain⟨_,e'⟩:=bd (by omega);exact⟨_,_,e'⟩
        obtain⟨q',cc,ag⟩:=ag;rw[e6,Ow hb];refine .nK (Cu (n:=Nat.min zs.length n) G aB (w':=w) (aA ag (fun bs U=>?_))) ⟨L,Tr.refl,hC,.t _ _ (.int _ _)⟩;rw[J]at U;simp only[Nat.zero_mul,List.take_zero]at U
        cases q' with
        |none=>rfl
        |some ad=>rw[U];rfl
       ·have bS:n≠0:=by
         intro hn;subst hn;simp at J
        obtain⟨rfl,bl⟩:=bd bS;have I:=I.own (by omega);obtain⟨vs,ap⟩:∃vs,ab.take (Nat.min zs.length n*i.size)=vs:=⟨_,rfl⟩;have V:(zs.take n).length=Nat.min zs.length n:=by rw[List.length_take];exact Nat.min_comm _ _
        have be:vs.length=(zs.take n).length*i.size:=by
         rw[<- ap,List.length_take,e3,V];exact Nat.min_eq_left (Nat.mul_le_mul_right _ (Nat.min_le_left _ _))
        have ao:∀u∈vs,eB u=true:=fun u hu=>e4 u (List.mem_of_mem_take (by rw[ap];exact hu));have ch:Nat.min zs.length n<=n:=Nat.min_le_right _ _
        have bt:a0*i.size+vs.length<=us.length:=by
         rw[be,V,I.1,<- Nat.add_mul];exact Nat.mul_le_mul_right _ (by omega)
        obtain⟨w',an,av,hg⟩:=Er I (q:=a0*i.size) (vs:=vs) bt ao P
        have aT:∃c1,c=c1+1:=by
         rcases I.2 with⟨e,_⟩|⟨g,cap,aR,e,_,_,cj,_⟩
         ·cases e
         ·cases e;exact⟨c - 1,by omega⟩
        obtain⟨c,rfl⟩:=aT
        have aN:cd (MA κ.M fr L) w i.size (zs.take n) vs:=by
         have hk:=e5.take (Nat.min zs.length n);rw[ap]at hk
         have:zs.take (Nat.min zs.length n)=zs.take n:=by
          rcases Nat.le_total zs.length n with hl|hl
          ·rw[show Nat.min zs.length n=zs.length from Nat.min_eq_left hl,List.take_length,List.take_of_length_le hl]
          ·rw[show Nat.min zs.length n=n from Nat.min_eq_right hl]
         rwa[this]at hk
        have al:=cd.lay (a:=a0) (zs:=zs.take n) (zu:=vs) ⟨aY,aX⟩ I.1 aN be (by rw[V];omega);rw[V]at al
        have a1:(Z.take a0++zs.take n++Z.drop (a0+Nat.min zs.length n)).length=Z.length:=by
         rw[List.length_append,List.length_append,V,List.length_take,List.length_drop];omega
        obtain⟨bk,hT⟩:=hC.nU (w':=w') (ks:=[]) (v':=.slice (some ⟨b,0,none⟩) Z.length (c+1)) (lb':=.row false bi i.size (Z.take a0++zs.take n++Z.drop (a0+Nat.min zs.length n))) hb rfl hL hg (.inl rfl) (fun b' bm=>by
          cases bm;rcases av.2 with⟨e,_⟩|⟨g,cap,aR,e,_,bo,_⟩
          ·cases e
          ·cases e;exact(Array.getElem?_eq_some_iff.1 bo).1) (.inl rfl) (fun h=>h) fun hT=>by
         refine⟨T,_,_,cb,.inr (by rw[a1];exact av),by rw[a1];exact au,al.1,fun q p bj y hq hp=>?_⟩;obtain⟨u,e1,e2⟩:=al.2 q p bj y hq hp;exact⟨u,e1,hT.vr e2⟩
        refine .nK (Cu (n:=Nat.min zs.length n) G aB (w':=w') (aA bl (fun bs U=>?_))) ⟨_,hT,bk,.t _ _ (.int _ _)⟩;simp only;rw[U,ap];exact an
      ·cases D
     ·cases D
    split at h
    ·rename_i r sz a n hs;split at h
     ·rename_i b4;obtain rfl:sz=i.size:=by simpa using b4
      exact row r i.size a n rfl h fun κ L w v hC hv=>by
       rw[hs]at hv;obtain⟨b,m,c,hL,rfl⟩:=ns hv;exact⟨_,b,m,c,c - a,hL,fun _=>⟨rfl,rfl⟩,fun J=>by subst J;exact⟨_,rfl⟩⟩
     ·cases h
    ·rename_i r hs;split at h
     ·rename_i ro bi sz Z hb
      exact row r i.size 0 Z.length rfl h fun κ L w v hC hv=>by
       rw[hs]at hv;obtain⟨hL,_⟩:=kH hv;obtain⟨T,us,I,au,⟨q,c,rfl⟩,aY,aX⟩:=fR hC hb hL;rcases Nat.eq_zero_or_pos Z.length with J|J
       ·exact⟨q,0,Z.length,c,c,hL,fun h=>absurd J h,fun _=>⟨q,by rw[J]⟩⟩
       ·rcases(I.own J).2 with⟨e,hz⟩|⟨b,cap,aR,e,_⟩
        ·omega
        ·cases e;exact⟨_,b,Z.length,c,c,hL,fun _=>⟨rfl,by rw[Nat.zero_mul]⟩,fun cf=>by omega⟩
     ·cases h
    ·cases h
end
theorem sB:∀(l u:List Nat),u.Nodup->(cB u l).Nodup
 |[],u,h=>h
 |i::r,u,h=>by
  unfold cB;split
  ·exact sB r u h
  ·rename_i z;refine sB r _ ?_;rw[List.nodup_append];refine⟨h,by simp,fun a y b v=>?_⟩;simp at v;subst v;intro e;subst e;exact fp.1 z y
theorem xG(fr:Fr):∀(n:Nat) (l:List Nat),l.Nodup->(close fr n l).Nodup
 |0,l,h=>h
 |n+1,l,h=>xG fr n _ (sB _ _ h)
theorem vc{fr:Fr}:∀{l:List Nat} {bs:Fr},dX fr l=some bs->bs.length=l.length/\∀(j i:Nat),l[j]?=some i->∃b,fr[i]?=some b/\bs[j]?=some b
 |[],bs,h=>by unfold dX at h;cases h;exact⟨rfl,fun j i h=>by simp at h⟩
 |k::r,bs,h=>by
  unfold dX at h;split at h
  ·cases h
  ·rename_i b y;split at h
   ·cases h
   ·rename_i l z;cases h;obtain⟨h1,h2⟩:=vc z;refine⟨by simp[h1],fun j i u=>?_⟩
    cases j with
    |zero=>cases u;exact⟨b,y,rfl⟩
    |succ j=>
     obtain⟨v,h3,h4⟩:=h2 j i (by simpa using u);exact⟨v,h3,by simpa using h4⟩
def vg{l:List Nat}{i j:Nat}(h:bc l i=some j):l[j]?=some i:=by
 unfold bc at h;obtain⟨v,u,_⟩:=List.findIdx?_eq_some_iff_getElem.1 h;rw[List.getElem?_eq_getElem v];rw[Nat.beq_eq]at u;rw[u]
def yA{l:List Nat}{i j:Nat}(hn:l.Nodup)(h:l[j]?=some i):bc l i=some j:=by
 unfold bc;rw[List.findIdx?_eq_some_iff_getElem];obtain⟨u,v⟩:=List.getElem?_eq_some_iff.1 h;refine⟨u,by rw[v];simp,fun k y=>?_⟩;rw[Bool.not_eq_true];rw[<- Bool.not_eq_true,Nat.beq_eq];intro e;have h1:l[k]'(by omega)=l[j]:=by rw[v];exact e.symm
 exact(List.pairwise_iff_getElem.1 hn) k j (by omega) u y h1
def vQ{l:List Nat}{j k i:Nat}(hn:l.Nodup)(hj:l[j]?=some i)(hk:l[k]?=some i):j=k:=by
 have h1:=yA hn hj;have h2:=yA hn hk;rw[h1]at h2;exact Option.some.inj h2
def AM(b:Lb):(cU b).ro=b.ro:=by cases b <;>rfl
def xz{σ:Nat->Option Nat}{b u:Lb}(h:iP σ b u):iP σ b (cU u):=by
 cases b <;>cases u <;>first|exact h.elim|exact h
def Hw{σ:Nat->Option Nat}{o:Option Lb}{b u:Lb}(h:iP σ b u):iP σ b (nA o u):=by
 unfold nA;split
 ·cases b <;>first|exact h.elim|exact h
 ·exact h
def Mn(o:Option Lb)(b:Lb):(nA o b).ro=b.ro:=by
 unfold nA;split <;>rfl
theorem re(τ:Nat->Option Nat):∀(hs:List Nat) (bs fr:Fr),(nu τ hs bs fr).length=fr.length
 |[],_,_=>rfl
 |_::_,[],_=>rfl
 |i::hs,b::bs,fr=>by rw[nu,re τ hs bs];simp
theorem yJ(τ:Nat->Option Nat):∀(hs:List Nat) (bs fr:Fr) (i:Nat),i∉hs->(nu τ hs bs fr)[i]?=fr[i]?
 |[],_,_,_,_=>rfl
 |_::_,[],_,_,_=>rfl
 |k::hs,b::bs,fr,i,h=>by
  simp only[List.mem_cons,not_or]at h;rw[nu,yJ τ hs bs _ i h.2,List.getElem?_set_ne (Ne.symm h.1)]
theorem Dh(τ:Nat->Option Nat):∀(hs:List Nat) (bs fr:Fr) (j i:Nat) (b:Lb),hs.Nodup->hs[j]?=some i->bs[j]?=some b->i <fr.length->(nu τ hs bs fr)[i]?=some (nA fr[i]? (b.sub τ))
 |[],_,_,j,_,_,_,h,_,_=>by simp at h
 |_::_,[],_,j,_,_,_,_,h,_=>by simp at h
 |k::hs,c::bs,fr,j,i,b,v,G,z,D=>by
  rw[List.nodup_cons]at v;rw[nu]
  cases j with
  |zero=>
   cases G;cases z;rw[yJ τ hs bs _ k v.1,List.getElem?_set_self D]
  |succ j=>
   have u:hs[j]?=some i:=by simpa using G
   have y:k≠i:=fun e=>by subst e;exact v.1 (List.mem_of_getElem? u)
   rw[Dh τ hs bs _ j i b v.2 u (by simpa using z) (by rw[List.length_set];exact D),List.getElem?_set_ne y]
theorem Gz:∀{hs:List Nat} {bs:Fr} {j i:Nat} {b:Lb},hs[j]?=some i->bs[j]?=some b->b.tch=true->i∈dL hs bs
 |[],_,j,_,_,h,_,_=>by simp at h
 |_::_,[],j,_,_,_,h,_=>by simp at h
 |k::hs,c::bs,j,i,b,v,u,y=>by
  unfold dL
  cases j with
  |zero=>cases v;cases u;rw[y];simp
  |succ j=>
   have:=Gz (hs:=hs) (bs:=bs) (j:=j) (by simpa using v) (by simpa using u) y;split
   ·exact List.mem_cons_of_mem _ this
   ·exact this
theorem Dc:∀{hs:List Nat} {bs fr:Fr} {j i:Nat} {b:Lb} {ro:Bool} {sz:Nat} {es:List (List AV)},kindOk hs bs fr=true->hs[j]?=some i->bs[j]?=some b->fr[i]?=some (.row ro true sz es)->∃z u D y,b=.row z u D y
 |[],_,_,j,_,_,_,_,_,_,h,_,_=>by simp at h
 |_::_,[],_,j,_,_,_,_,_,_,_,h,_=>by simp at h
 |k::hs,c::bs,fr,j,i,b,ro,sz,es,v,J,G,I=>by
  unfold kindOk at v;rw[Bool.and_eq_true]at v
  cases j with
  |zero=>
   cases J;cases G;have:=v.1;rw[I]at this
   cases c with
   |row a U c d=>exact⟨a,U,c,d,rfl⟩
   |box=>cases this
   |map=>cases this
   |own=>cases this
  |succ j=>exact Dc v.2 (by simpa using J) (by simpa using G) I
def bU(κ:Ctx)(fr1:Fr)(L:Ls)(w:World)(hs:List Nat):Ctx where
 M:=fun b=>MA κ.M fr1 L b\/w.heap.size<=b\/∃i∈hs,∃v,L i=some v/\Bk v b
 X:=fun b=>∃i∈hs,∃v u,L i=some v/\Bk v b/\fr1[i]?=some u/\u.ro=false
 H:=fun b=>∃i∈hs,∃v,L i=some v/\Bk v b
 W:=w
 L:=fun j=>(hs[j]?).bind L
section
variable {γ:Glob} {κ:Ctx} {fr1 fr':Fr} {L L':Ls} {w w':World} {hs:List Nat} {bs:Fr}
def ar.handed(J:ar γ κ fr1 L w)(hn:hs.Nodup)(hb:dX fr1 hs=some bs):ar γ (bU κ fr1 L w hs) (bs.map fun b=>cU (b.sub (bc hs))) (bU κ fr1 L w hs).L w/\(∀b,MA κ.M fr1 L b->MA (bU κ fr1 L w hs).M (bs.map fun b=>cU (b.sub (bc hs))) (bU κ fr1 L w hs).L b)/\
  ∀x v,SR (MA κ.M fr1 L) L w x v->SR (MA (bU κ fr1 L w hs).M (bs.map fun b=>cU (b.sub (bc hs))) (bU κ fr1 L w hs).L) (bU κ fr1 L w hs).L w (x.sub (bc hs)) v:=by
 obtain⟨ag,ad⟩:=vc hb
 have G:∀(j:Nat) (u:Lb),(bs.map fun b=>cU (b.sub (bc hs)))[j]?=some u->∃(i:Nat) (D:Lb),hs[j]?=some i/\fr1[i]?=some D/\u=cU (D.sub (bc hs)):=fun j u h=>by
  rw[List.getElem?_map]at h
  cases U:bs[j]? with
  |none=>rw[U]at h;cases h
  |some D=>
   rw[U]at h;cases h;obtain⟨i,y⟩:=am (xs:=hs) (k:=j) (by rw[<- ag];exact aC U);obtain⟨b,h1,h2⟩:=ad j i y;rw[U]at h2;cases h2;exact⟨i,D,y,h1,rfl⟩
 have hL:∀j v,(bU κ fr1 L w hs).L j=some v->∃i,hs[j]?=some i/\L i=some v:=fun j v h=>by
  cases hj:hs[j]? with
  |none=>simp[bU,hj]at h
  |some i=>exact⟨i,rfl,by simpa[bU,hj]using h⟩
 have ab:∀i j v,bc hs i=some j->L i=some v->(bU κ fr1 L w hs).L j=some v:=fun i j v h1 h2=>by
  have:=vg h1;simp[bU,this,h2]
 have hO:∀b,Own (bs.map fun b=>cU (b.sub (bc hs))) (bU κ fr1 L w hs).L b->Own fr1 L b:=fun b ⟨j,v,u,h1,h2,h3,h4⟩=>by
  obtain⟨i,y,h1⟩:=hL j v h1;obtain⟨i',D,z,V,rfl⟩:=G j u h3;rw[y]at z;cases z;rw[AM,Lb.oS]at h4;exact⟨i,v,D,h1,h2,V,h4⟩
 have Z:∀b,MA κ.M fr1 L b->MA (bU κ fr1 L w hs).M (bs.map fun b=>cU (b.sub (bc hs))) (bU κ fr1 L w hs).L b:=fun b hm=>⟨.inl hm,fun h=>hm.2 (hO b h)⟩;refine⟨⟨J.glob,Nat.le_trans J.gn J.size,fun b hx=>?_,fun b hb=>.inr (.inl hb),rfl,rfl,rfl,Nat.le_refl _,fun _ _ _=>rfl,fun j v h=>?_,fun j v b u h1 h2 h3=>?_,fun j k v v' b h1 h2 h3 h4=>?_,fun j v h=>?_,fun j u h=>?_⟩,Z,fun x v hv=>SR.sub _ (Nat.le_refl _) (fun b _ hm=>⟨Z b hm,rfl⟩) ab hv⟩
 ·obtain⟨i,_,v,D,h1,h2,h3,h4⟩:=hx;obtain⟨a1,_,a3⟩:=J.own ⟨i,v,D,h1,h2,h3,h4⟩;refine⟨?_,a1⟩;rcases a3 with h|h
  ·exact Nat.le_trans J.gn h
  ·exact(J.gx b h).1
 ·obtain⟨i,y,_⟩:=hL j v h;rw[List.length_map,ag];exact aC y
 ·obtain⟨i,y,h1⟩:=hL j v h1;obtain⟨i',D,z,V,rfl⟩:=G j u h3;rw[y]at z;cases z;have I:=List.mem_of_getElem? y;refine⟨(J.new i v b D h1 h2 V).1,.inr (.inr ⟨i,I,v,h1,h2⟩),.inr ⟨i,I,v,h1,h2⟩,fun hr=>.inr ⟨i,I,v,D,h1,h2,V,?_⟩⟩;rw[AM,Lb.oS]at hr;exact hr
 ·obtain⟨i,y,h1⟩:=hL j v h1;obtain⟨i',z,h2⟩:=hL k v' h2;have:=J.dis i i' v v' b h1 h2 h3 h4;subst this;exact vQ hn y z
 ·obtain⟨i,y,h1⟩:=hL j v h;obtain⟨D,V,h6⟩:=ad j i y;exact⟨cU (D.sub (bc hs)),by rw[List.getElem?_map,h6];rfl,fun _=>h⟩
 ·obtain⟨i,D,y,V,rfl⟩:=G j u h;refine py (i:=i) (σ:=bc hs) (Nat.le_refl _) (fun b _ hm=>⟨Z b hm,rfl⟩) ab (fun v hv=>?_) (fun _ _ _ _=>rfl) (fun _ _ _ _ _ _ h=>h) (xz (nR _ _)) (J.blk i D V);simp[bU,y,hv]
def fG(hs:List Nat)(n:Nat)(L L':Ls):Ls:=fun i=>match bc hs i with
 |some j=>L' j
 |none=>if i <n then L i else L' (hs.length+(i - n))
theorem ar.back(G:ar γ κ fr1 L w)(hn:hs.Nodup)(hb:dX fr1 hs=some bs)(z:ar γ (bU κ fr1 L w hs) fr' L' w')(hk:kindOk hs fr' fr1=true):
  ar γ κ (back hs fr1 fr') (fG hs fr1.length L L') w'/\Tr κ.M fr1 L w (back hs fr1 fr') (fG hs fr1.length L L') w' (dL hs fr')/\(∀b,MA (bU κ fr1 L w hs).M fr' L' b->MA κ.M (back hs fr1 fr') (fG hs fr1.length L L') b)/\
  ∀x v,SR (MA (bU κ fr1 L w hs).M fr' L') L' w' x v->SR (MA κ.M (back hs fr1 fr') (fG hs fr1.length L L')) (fG hs fr1.length L L') w' (x.sub (dO hs fr1.length)) v:=by
 obtain⟨b7,bo⟩:=vc hb;have aR:w.heap.size<=w'.heap.size:=z.size
 have av:∀j i,hs[j]?=some i->∃v y,L i=some v/\fr1[i]?=some y/\i <fr1.length:=fun j i hi=>by
  obtain⟨y,h1,_⟩:=bo j i hi;have bk:=aC h1
  cases J:L i with
  |some v=>exact⟨v,y,rfl,h1,bk⟩
  |none=>
   have:=G.blk i y h1
   cases y with
   |box=>obtain⟨g,us,e,_⟩:=this;rw[J]at e;cases e
   |row=>obtain⟨T,v,us,e,_⟩:=this;rw[J]at e;cases e
   |map=>obtain⟨r,bZ,bm,e,_⟩:=this;rw[J]at e;cases e
   |own=>obtain⟨v,t,e,_⟩:=this;rw[J]at e;cases e
 have aN:∀j i v,hs[j]?=some i->L i=some v->(bU κ fr1 L w hs).L j=some v:=fun j i v hj J=>by simp[bU,hj,J]
 have bu:hs.length<=fr'.length:=by
  rcases Nat.lt_or_ge fr'.length hs.length with h|h
  ·obtain⟨i,hi⟩:=am (xs:=hs) (k:=fr'.length) h;obtain⟨v,_,J,_⟩:=av _ i hi;obtain⟨y,h1,_⟩:=z.hand _ v (aN _ i v hi J);have:=aC h1;omega
  ·exact h
 have aF:(Go.Proofs.YtcgdbhlnkificaaGreatDoor.back hs fr1 fr').length=fr1.length+(fr'.length - hs.length):=by
  unfold Go.Proofs.YtcgdbhlnkificaaGreatDoor.back;rw[List.length_append,re,oo,List.length_map,List.length_drop]
 -- the three kinds of places
 have ao:∀i,i <fr1.length->i∉hs->(Go.Proofs.YtcgdbhlnkificaaGreatDoor.back hs fr1 fr')[i]?=(fr1[i]?).map (Lb.sub (dD (dL hs fr'))):=fun i hi hm=>by
  unfold Go.Proofs.YtcgdbhlnkificaaGreatDoor.back;rw[List.getElem?_append_left (by rw[re,oo];exact hi),yJ _ _ _ _ _ hm,vx]
 have aA:∀(j i:Nat) (b:Lb),hs[j]?=some i->fr'[j]?=some b->(Go.Proofs.YtcgdbhlnkificaaGreatDoor.back hs fr1 fr')[i]?=some (nA ((fr1[i]?).map (Lb.sub (dD (dL hs fr')))) (b.sub (dO hs fr1.length))):=fun j i b hj bt=>by
  obtain⟨_,_,_,_,hi⟩:=av j i hj;unfold Go.Proofs.YtcgdbhlnkificaaGreatDoor.back;rw[List.getElem?_append_left (by rw[re,oo];exact hi),Dh _ _ _ _ j i b hn hj bt (by rw[oo];exact hi),vx]
 have bf:∀i,fr1.length<=i->(Go.Proofs.YtcgdbhlnkificaaGreatDoor.back hs fr1 fr')[i]?=(fr'[hs.length+(i - fr1.length)]?).map fun b=>cU (b.sub (dO hs fr1.length)):=fun i hi=>by
  unfold Go.Proofs.YtcgdbhlnkificaaGreatDoor.back;rw[List.getElem?_append_right (by rw[re,oo];exact hi),re,oo,List.getElem?_map,List.getElem?_drop]
 have ap:∀i,i <fr1.length->i∉hs->fG hs fr1.length L L' i=L i:=fun i hi hm=>by
  unfold fG
  cases hx:bc hs i with
  |none=>simp only[if_pos hi]
  |some j=>exact absurd (List.mem_of_getElem? (vg hx)) hm
 have V:∀j i,hs[j]?=some i->fG hs fr1.length L L' i=L' j:=fun j i hj=>by
  unfold fG;rw[yA hn hj]
 have aG:∀i,fr1.length<=i->fG hs fr1.length L L' i=L' (hs.length+(i - fr1.length)):=fun i hi=>by
  unfold fG
  cases hx:bc hs i with
  |none=>simp only[if_neg (by omega:¬i <fr1.length)]
  |some j=>
   obtain⟨_,_,_,_,h⟩:=av j i (vg hx);omega
 -- every place is of one kind
 have ag:∀i,(i <fr1.length/\i∉hs)\/(∃j,hs[j]?=some i)\/fr1.length<=i:=fun i=>by
  by_cases h1:i∈hs
  ·obtain⟨j,hj,he⟩:=List.mem_iff_getElem.1 h1;exact .inr (.inl ⟨j,by rw[List.getElem?_eq_getElem hj,he]⟩)
  ·rcases Nat.lt_or_ge i fr1.length with h|h
   ·exact .inl ⟨h,h1⟩
   ·exact .inr (.inr h)
 -- the callee's place of one that is not old
 have Z:∀i v,fG hs fr1.length L L' i=some v->(i <fr1.length/\i∉hs/\L i=some v)\/∃q y,L' q=some v/\fr'[q]?=some y/\((hs[q]?=some i)\/(fr1.length<=i/\q=hs.length+(i - fr1.length))):=fun i v h=>by
  rcases ag i with⟨h1,h2⟩|⟨j,hj⟩|h1
  ·rw[ap i h1 h2]at h;exact .inl ⟨h1,h2,h⟩
  ·rw[V j i hj]at h;have:=z.lim j v h;exact .inr ⟨j,fr'[j],h,List.getElem?_eq_getElem this,.inl hj⟩
  ·rw[aG i h1]at h;have:=z.lim _ v h;exact .inr ⟨_,fr'[hs.length+(i - fr1.length)],h,List.getElem?_eq_getElem this,.inr ⟨h1,rfl⟩⟩
 have D:∀i q y,fr'[q]?=some y->((hs[q]?=some i)\/(fr1.length<=i/\q=hs.length+(i - fr1.length)))->∃ab,(Go.Proofs.YtcgdbhlnkificaaGreatDoor.back hs fr1 fr')[i]?=some ab/\ab.ro=y.ro/\iP (dO hs fr1.length) y ab:=fun i q y h1 h2=>by
  rcases h2 with h2|⟨h2,rfl⟩
  ·exact⟨_,aA q i y h2 h1,by rw[Mn,Lb.oS],Hw (nR _ _)⟩
  ·exact⟨_,by rw[bf i h2,h1];rfl,by rw[AM,Lb.oS],xz (nR _ _)⟩
 have ax:∀i k q,((hs[q]?=some i)\/(fr1.length<=i/\q=hs.length+(i - fr1.length)))->((hs[q]?=some k)\/(fr1.length<=k/\q=hs.length+(k - fr1.length)))->i=k:=fun i k q h1 h2=>by
  rcases h1 with h1|⟨h1,h3⟩<;>rcases h2 with h2|⟨h2,h4⟩
  ·rw[h1]at h2;exact Option.some.inj h2
  ·have:=aC h1;omega
  ·have:=aC h2;omega
  ·omega
 have aX:∀q i v,dO hs fr1.length q=some i->L' q=some v->fG hs fr1.length L L' i=some v:=fun q i v h1 h2=>by
  unfold dO at h1
  cases hq:hs[q]? with
  |some j=>
   rw[hq]at h1;cases h1;rw[V q _ hq];exact h2
  |none=>
   rw[hq]at h1;cases h1;have cf:hs.length<=q:=by rw[List.getElem?_eq_none_iff]at hq;exact hq
   rw[aG _ (by omega)];rw[show hs.length+(fr1.length+(q - hs.length) - fr1.length)=q by omega];exact h2
 -- blocks of the caller's that are not handed over stay
 have U:∀i v b,i <fr1.length->i∉hs->L i=some v->Bk v b->b <w.heap.size/\¬(bU κ fr1 L w hs).X b/\¬(bU κ fr1 L w hs).H b:=fun i v b hi hm J an=>by
  refine⟨(G.new i v b fr1[i] J an (List.getElem?_eq_getElem hi)).1,fun⟨k,hk,u,y,h1,h2,_⟩=>?_,fun⟨k,hk,u,h1,h2⟩=>?_⟩
  ·have:=G.dis i k v u b J h1 an h2;subst this;exact hm hk
  ·have:=G.dis i k v u b J h1 an h2;subst this;exact hm hk
 have aB:∀i v,i∉dL hs fr'->L i=some v->fG hs fr1.length L L' i=some v:=fun i v hi J=>by
  have bk:=G.lim i v J;rcases ag i with⟨h1,h2⟩|⟨j,hj⟩|h1
  ·rw[ap i h1 h2];exact J
  ·rw[V j i hj];obtain⟨y,h3,h4⟩:=z.hand j v (aN j i v hj J);refine h4 ?_;rw[<- Bool.not_eq_true];exact fun ht=>hi (Gz hj h3 ht)
  ·omega
 have aT:∀b,Own (Go.Proofs.YtcgdbhlnkificaaGreatDoor.back hs fr1 fr') (fG hs fr1.length L L') b->(∃i v y,i <fr1.length/\i∉hs/\L i=some v/\Bk v b/\fr1[i]?=some y/\y.ro=false)\/Own fr' L' b:=fun b ⟨i,v,ab,h1,h2,h3,h4⟩=>by
  rcases Z i v h1 with⟨I,a2,a3⟩|⟨q,y,I,a2,a3⟩
  ·rw[ao i I a2]at h3
   cases hf:fr1[i]? with
   |none=>rw[hf]at h3;cases h3
   |some y=>rw[hf]at h3;cases h3;rw[Lb.oS]at h4;exact .inl ⟨i,v,y,I,a2,a3,h2,hf,h4⟩
  ·obtain⟨bd,b1,b2,_⟩:=D i q y a2 a3;rw[b1]at h3;cases h3;exact .inr ⟨q,v,y,I,h2,a2,by rw[<- b2];exact h4⟩
 have aY:∀b,Own fr' L' b->w.heap.size<=b\/(bU κ fr1 L w hs).X b:=fun b h=>(z.own h).2.2;have au:∀b,(bU κ fr1 L w hs).X b->Own fr1 L b:=fun b ⟨i,_,v,y,h1,h2,h3,h4⟩=>⟨i,v,y,h1,h2,h3,h4⟩
 have aM:∀b,MA (bU κ fr1 L w hs).M fr' L' b->MA κ.M (Go.Proofs.YtcgdbhlnkificaaGreatDoor.back hs fr1 fr') (fG hs fr1.length L L') b:=fun b hm=>by
  refine⟨?_,fun ho=>?_⟩
  ·rcases hm.1 with h|h|⟨i,hi,v,h1,h2⟩
   ·exact h.1
   ·exact G.fresh b (Nat.le_trans G.size h)
   ·have hl:=G.lim i v h1;exact(G.new i v b fr1[i] h1 h2 (List.getElem?_eq_getElem hl)).2.1
  ·rcases aT b ho with⟨i,v,y,h1,h2,h3,h4,h5,h6⟩|h
   ·obtain⟨k1,_,k3⟩:=U i v b h1 h2 h3 h4;rcases hm.1 with h|h|h
    ·exact h.2 ⟨i,v,y,h3,h4,h5,h6⟩
    ·omega
    ·exact k3 h
   ·exact hm.2 h
 have bi:Tr κ.M fr1 L w (Go.Proofs.YtcgdbhlnkificaaGreatDoor.back hs fr1 fr') (fG hs fr1.length L L') w' (dL hs fr'):=⟨aR,fun b hb hm=>⟨⟨hm.1,fun ho=>by
   rcases aT b ho with⟨i,v,y,h1,h2,h3,h4,h5,h6⟩|h
   ·exact hm.2 ⟨i,v,y,h3,h4,h5,h6⟩
   ·rcases aY b h with h|h
    ·omega
    ·exact hm.2 (au b h)⟩,z.kept b hb fun hx=>hm.2 (au b hx)⟩,aB⟩
 refine⟨⟨z.glob,G.gn,G.gx,G.fresh,z.os.trans G.os,z.tape.trans G.tape,z.output.trans G.output,Nat.le_trans G.size aR,fun k hk hx=>?_,fun i v h=>?_,fun i v b ab h1 h2 h3=>?_,fun i k v v' b h1 h2 h3 h4=>?_,fun j v h=>?_,fun i ab h=>?_⟩,bi,aM,fun x v J=>SR.sub _ (Nat.le_refl _) (fun b _ hm=>⟨aM b hm,rfl⟩) aX J⟩
 ·rw[z.kept k (Nat.lt_of_lt_of_le hk G.size) fun h=>?_]
  ·exact G.kept k hk hx
  ·rcases(G.own (au k h)).2.2 with h|h
   ·omega
   ·exact hx h
 ·rw[aF];rcases Z i v h with⟨I,_,_⟩|⟨q,y,I,a2,a3⟩
  ·omega
  ·have:=aC a2;rcases a3 with a3|⟨a3,rfl⟩
   ·obtain⟨_,_,_,_,h⟩:=av q i a3;omega
   ·omega
 ·rcases Z i v h1 with⟨I,a2,a3⟩|⟨q,y,I,a2,a3⟩
  ·rw[ao i I a2]at h3
   cases hf:fr1[i]? with
   |none=>rw[hf]at h3;cases h3
   |some y=>
    rw[hf]at h3;cases h3;obtain⟨c1,c2,c0,c3⟩:=G.new i v b y a3 h2 hf;exact⟨Nat.lt_of_lt_of_le c1 aR,c2,c0,fun hr=>c3 (by rw[Lb.oS]at hr;exact hr)⟩
  ·obtain⟨bd,b1,b2,_⟩:=D i q y a2 a3;rw[b1]at h3;cases h3;obtain⟨c1,_,c0,c3⟩:=z.new q v b y I h2 a2
   have hh:(κ.M b/\(κ.W.heap.size<=b\/κ.H b)):=by
    rcases c0 with c0|⟨k,hk,u,e1,e2⟩
    ·exact⟨G.fresh b (Nat.le_trans G.size c0),.inl (Nat.le_trans G.size c0)⟩
    ·have hl:=G.lim k u e1;have:=G.new k u b fr1[k] e1 e2 (List.getElem?_eq_getElem hl);exact⟨this.2.1,this.2.2.1⟩
   refine⟨c1,hh.1,hh.2,fun hr=>?_⟩;rcases c3 (by rw[<- b2];exact hr)with h|h
   ·exact .inl (Nat.le_trans G.size h)
   ·exact(G.own (au b h)).2.2
 ·have al:∀i v q u y,i <fr1.length->i∉hs->L i=some v->Bk v b->L' q=some u->fr'[q]?=some y->Bk u b->False:=fun i v q u y I a2 a3 a4 a5 a6 a7=>by
   obtain⟨k1,_,k3⟩:=U i v b I a2 a3 a4;rcases(z.new q u b y a5 a7 a6).2.2.1 with h|h
   ·exact Nat.lt_irrefl _ (Nat.lt_of_lt_of_le k1 h)
   ·exact k3 h
  rcases Z i v h1 with⟨I,a2,a3⟩|⟨q,y,I,a2,a3⟩<;>rcases Z k v' h2 with⟨b1,b2,b3⟩|⟨p,bS,b1,b2,b3⟩
  ·exact G.dis i k v v' b a3 b3 h3 h4
  ·exact(al i v p v' bS I a2 a3 h3 b1 b2 h4).elim
  ·exact(al k v' q v y b1 b2 b3 h4 I a2 h3).elim
  ·have:=z.dis q p v v' b I b1 h3 h4;subst this;exact ax i k q a3 b3
 ·obtain⟨y,h1,h2⟩:=G.hand j v h;have cc:=aC h1;rcases ag j with⟨I,a2⟩|⟨q,hq⟩|I
  ·exact⟨_,by rw[ao j I a2,h1];rfl,fun ht=>by rw[Lb.wE]at ht;rw[ap j I a2];exact h2 ht⟩
  ·obtain⟨u,ch,hu,_,_⟩:=av q j hq;obtain⟨bb,h3,h4⟩:=z.hand q u (aN q j u hq hu);refine⟨_,aA q j bb hq h3,fun ht=>?_⟩
   have bH:y.tch=false:=by
    rw[<- Bool.not_eq_true];intro ad
    cases y with
    |row ro be sz es=>
     have:be=true:=ad;subst this;obtain⟨cj,b4,cl,b5,rfl⟩:=Dc hk hq h3 h1;rw[h1]at ht;simp[nA,Lb.sub,Lb.tch]at ht
    |box=>cases ad
    |map=>cases ad
    |own=>cases ad
   have bl:bb.tch=false:=by
    rw[<- Bool.not_eq_true];intro ad
    cases bb with
    |row ro be sz es=>
     have:be=true:=ad;subst this;unfold nA at ht;split at ht
     ·rename_i e1 e2;cases e2;cases ht
     ·cases ht
    |box=>cases ad
    |map=>cases ad
    |own=>cases ad
   have:=h2 bH;rw[hu]at this;cases this;rw[V q j hq];exact h4 bl
  ·omega
 ·rcases ag i with⟨I,a2⟩|⟨q,hq⟩|I
  ·rw[ao i I a2]at h
   cases hf:fr1[i]? with
   |none=>rw[hf]at h;cases h
   |some y=>
    rw[hf]at h;cases h
    have bj:∀v b,L i=some v->Bk v b->w'.heap[b]?=w.heap[b]?:=fun v b J an=>by
     obtain⟨k1,k2,_⟩:=U i v b I a2 J an;exact z.kept b k1 k2
    exact py (i:=i) (σ:=dD (dL hs fr')) aR bi.same (fun p q u hq hu=>by obtain⟨rfl,hq⟩:=yH hq;exact aB _ u hq hu) (fun v J=>by rw[ap i I a2];exact J) bj (fun T sz v n us J hr=>hr.same fun b an=>bj v b J (.one an)) (nR _ _) (G.blk i y hf)
  ·obtain⟨u,_,hu,_,_⟩:=av q i hq;obtain⟨y,h3,_⟩:=z.hand q u (aN q i u hq hu);obtain⟨bd,b1,_,b3⟩:=D i q y h3 (.inl hq);rw[b1]at h;cases h;exact py (i:=q) (σ:=dO hs fr1.length) (Nat.le_refl _) (fun b _ hm=>⟨aM b hm,rfl⟩) aX (fun v J=>by rw[V q i hq];exact J) (fun _ _ _ _=>rfl) (fun _ _ _ _ _ _ h=>h) b3 (z.blk q y h3)
  ·have hi:=aC h;rw[aF]at hi;obtain⟨y,h3⟩:=am (xs:=fr') (k:=hs.length+(i - fr1.length)) (by omega);obtain⟨bd,b1,_,b3⟩:=D i _ y h3 (.inr ⟨I,rfl⟩);rw[b1]at h;cases h;exact py (i:=hs.length+(i - fr1.length)) (σ:=dO hs fr1.length) (Nat.le_refl _) (fun b _ hm=>⟨aM b hm,rfl⟩) aX (fun v J=>by rw[aG i I];exact J) (fun _ _ _ _=>rfl) (fun _ _ _ _ _ _ h=>h) b3 (z.blk _ y h3)
end
section
variable {A A':Nat->Prop} {L L':Ls} {w w':World}
mutual
theorem CH:∀(x:AV),np x=true->∀(v:Value),VR A w x v->VR A' w' x v
 | .int k n,_,v,h=>by cases h;exact .int _ _
 | .bool b,_,v,h=>by cases h;exact .bool _
 | .str s,_,v,h=>by cases h;exact .str _
 | .lit u,_,v,h=>by cases h with|lit _ h=>exact .lit _ h
 | .lz,_,v,h=>by cases h;exact .lz _ _
 | .agg z,y,v,h=>by
  cases h with
  |agg _ us hl hr=>exact .agg _ _ hl (yo z (by rw[np]at y;exact y) us hr)
 | .aN z,y,v,h=>by
  cases h with
  |aN _ us hl hr=>exact .aN _ _ hl (yo z (by rw[np]at y;exact y) us hr)
 | .arr es,y,_,_=>by simp[np]at y
 | .tp z,y,_,_=>by simp[np]at y
 | .fn f nf z,y,_,_=>by simp[np]at y
 | .mp ks vs,y,_,_=>by simp[np]at y
theorem yo:∀(cs:List AV),sO cs=true->∀(us:Array Value),(∀(j:Nat) (x:AV) (u:Value),cs[j]?=some x->us[j]?=some u->VR A w x u)->∀(j:Nat) (x:AV) (u:Value),cs[j]?=some x->us[j]?=some u->VR A' w' x u
 |[],_,us,_=>fun j x u y _=>by simp at y
 |c::cs,z,us,D=>fun j x u y v=>by
  rw[sO,Bool.and_eq_true]at z
  cases j with
  |zero=>cases y;exact CH c z.1 u (D 0 c u rfl v)
  |succ j=>
   refine yo cs z.2 (us.extract 1 us.size) (fun j x u y v=>?_) j x u (by simpa using y) ?_
   ·rw[Array.getElem?_extract]at v;split at v
    ·rw[Nat.add_comm]at v;exact D (j+1) x u (by simpa using y) v
    ·cases v
   ·have G:=(Array.getElem?_eq_some_iff.1 v).1;rw[Array.getElem?_extract,if_pos (by omega),Nat.add_comm];exact v
end
mutual
theorem CI:∀(x:SV),dq x=true->∀(v:Value),SR A L w x v->SR A' L' w' x v
 | .t x,u,v,h=>by cases h with|t _ _ h=>exact .t _ _ (CH x (by rw[dq]at u;exact u) v h)
 | .nil,_,v,h=>by cases h;exact .nil
 | .agg y,u,v,h=>by
  cases h with
  |agg _ us hl hr=>exact .agg _ _ hl (yp y (by rw[dq]at u;exact u) us hr)
 | .aN y,u,v,h=>by
  cases h with
  |aN _ us hl hr=>exact .aN _ _ hl (yp y (by rw[dq]at u;exact u) us hr)
 | .tc es,u,_,_=>by simp[dq]at u
 | .nn es,u,_,_=>by simp[dq]at u
 | .lp i j,u,_,_=>by simp[dq]at u
 | .ls i,u,_,_=>by simp[dq]at u
 | .lv i sz a n,u,_,_=>by simp[dq]at u
 | .le i sz k j,u,_,_=>by simp[dq]at u
 | .lm i,u,_,_=>by simp[dq]at u
 | .lo i p,u,_,_=>by simp[dq]at u
 | .lr i p k,u,_,_=>by simp[dq]at u
 | .fn f nf y,u,_,_=>by simp[dq]at u
 | .aT s,u,_,_=>by simp[dq]at u
 | .no,u,_,_=>by simp[dq]at u
 | .dead,u,_,_=>by simp[dq]at u
theorem yp:∀(cs:List SV),sP cs=true->∀(us:Array Value),(∀(j:Nat) (x:SV) (u:Value),cs[j]?=some x->us[j]?=some u->SR A L w x u)->∀(j:Nat) (x:SV) (u:Value),cs[j]?=some x->us[j]?=some u->SR A' L' w' x u
 |[],_,us,_=>fun j x u y _=>by simp at y
 |c::cs,z,us,D=>fun j x u y v=>by
  rw[sP,Bool.and_eq_true]at z
  cases j with
  |zero=>cases y;exact CI c z.1 u (D 0 c u rfl v)
  |succ j=>
   refine yp cs z.2 (us.extract 1 us.size) (fun j x u y v=>?_) j x u (by simpa using y) ?_
   ·rw[Array.getElem?_extract]at v;split at v
    ·rw[Nat.add_comm]at v;exact D (j+1) x u (by simpa using y) v
    ·cases v
   ·have G:=(Array.getElem?_eq_some_iff.1 v).1;rw[Array.getElem?_extract,if_pos (by omega),Nat.add_comm];exact v
end
def SR.D6(hA:∀b,b <w.heap.size->A b->A' b/\w'.heap[b]?=w.heap[b]?)(hs:w.heap.size<=w'.heap.size){x:SV}{v:Value}(h:SR A L w x v):x.refs=[]->SR A' L' w' x v:=by
 have G:∀{z:List SV},SV.iJ z=[]->∀(j:Nat) (c:SV),z[j]?=some c->c.refs=[]:=fun{z}=>by
  induction z with
  |nil=>intro _ j c V;simp at V
  |cons d ds D=>
   intro I j c V;rw[SV.iJ,List.append_eq_nil_iff]at I
   cases j with
   |zero=>cases V;exact I.1
   |succ j=>exact D I.2 j c (by simpa using V)
 induction h with
 |t x v h=>intro _;exact .t x v (VR.on hs hA h)
 |nil=>intro _;exact .nil
 |tc Z a h=>intro _;exact .tc Z a (VR.on hs hA h)
 |nn Z a c h=>intro _;exact .nn Z a c (VR.on hs hA h)
 |agg z U J I D=>intro y;rw[SV.refs]at y;exact .agg z U J fun j x u h1 h2=>D j x u h1 h2 (G y j x h1)
 |aN z U J I D=>intro y;rw[SV.refs]at y;exact .aN z U J fun j x u h1 h2=>D j x u h1 h2 (G y j x h1)
 |fn f z fs U J I D=>intro y;rw[SV.refs]at y;exact .fn f z fs U J fun j x u h1 h2=>D j x u h1 h2 (G y j x h1)
 |aT x v h D=>intro y;rw[SV.refs]at y;exact .aT x v (D y)
 |no=>intro _;exact .no
 |dead v=>intro _;exact .dead v
 |lp=>intro y;rw[SV.refs]at y;cases y
 |ls=>intro y;rw[SV.refs]at y;cases y
 |lv=>intro y;rw[SV.refs]at y;cases y
 |le=>intro y;rw[SV.refs]at y;cases y
 |lm=>intro y;rw[SV.refs]at y;cases y
 |lo=>intro y;rw[SV.refs]at y;cases y
 |lr=>intro y;rw[SV.refs]at y;cases y
end
def gR(P :Program)(f :FuncId):Prop := ∃fn,P.funcs[f]?=some fn/\ (fn.name== "runtime.NumGoroutine")=false/\ fn.body.isNone=false
def z7{P:Program}{f:FuncId}(h:gR P f)(args:Array Value)(w:World):(callFunc f args).run P w=.ok (.enter f args) w:=by
 obtain⟨fn,h1,h2,h3⟩:=h;have u : ¬fn.name= "runtime.NumGoroutine" :=by simpa using h2
 have v:¬fn.body=none:=by intro h;rw[h]at h3;cases h3
 simp[callFunc,program,Sem.run_bind,Sem.run,Result.andThen_ok,h1,u,v]
def ee(P:Program)(γ:Glob)(C:CallF):Prop:=∀(f:Nat) (y:List SV) (fr:Fr) (r:SV) (fr':Fr),C f y fr=some (r,fr')->gR P f/\∀(κ:Ctx) (w:World) (z:Array Value),ar γ κ fr κ.L w->κ.W=w->z.size=y.length->(∀(j:Nat) (x:SV) (u:Value),y[j]?=some x->z[j]?=some u->SR (MA κ.M fr κ.L) κ.L w x u)->
 Calls P f z w fun e w'=>∃v L',e=.returned v/\ar γ κ fr' L' w'/\SR (MA κ.M fr' L') L' w' r v
section
variable {P:Program} {γ:Glob} {κ:Ctx} {fr:Fr} {L:Ls} {w:World}
def ar.pure(u:ar γ κ fr L w)(M:Nat->Prop)(v:∀b,w.heap.size<=b->M b):ar γ ⟨M,fun _=>False,fun _=>False,w,fun _=>none⟩ [] (fun _=>none) w where
 glob:=u.glob
 gn:=Nat.le_trans u.gn u.size
 gx:=fun _ h=>h.elim
 fresh:=v
 os:=rfl
 tape:=rfl
 output:=rfl
 size:=Nat.le_refl _
 kept:=fun _ _ _=>rfl
 lim:=fun _ _ h=>by cases h
 new:=fun _ _ _ _ h=>by cases h
 dis:=fun _ _ _ _ _ h=>by cases h
 hand:=fun _ _ h=>by cases h
 blk:=fun i y h=>by simp at h
theorem tz{A A':Nat->Prop}{L':Ls}{σ:Nat->Option Nat}:∀(hl:List Bool) (args:List SV) (xs:List AV) (us:List Value),hl.length=args.length->args.length=us.length->(bp hl args).length=xs.length->(∀(j:Nat) (s:SV) (u:Value),args[j]?=some s->us[j]?=some u->SR A L w s u)->(∀s v,SR A L w s v->SR A' L' w (s.sub σ) v)->(∀(j:Nat) (s:SV) (x:AV) (v:Value),(bp hl args)[j]?=some s->xs[j]?=some x->SR A L w s v->VR A' w x v)->
  (dt σ hl args xs).length=us.length/\∀(j:Nat) (s:SV) (u:Value),(dt σ hl args xs)[j]?=some s->us[j]?=some u->SR A' L' w s u
 |[],[],xs,us,_,h2,_,_,_,_=>by
  have:us=[]:=List.eq_nil_of_length_eq_zero h2.symm;subst this;exact⟨by simp[dt],fun j s u hs=>by simp[dt]at hs⟩
 |true::hl,s::args,xs,us,h1,h2,h3,h4,D,z=>by
  cases us with
  |nil=>simp at h2
  |cons u us=>
   obtain⟨G,a2⟩:=tz hl args xs us (by simpa using h1) (by simpa using h2) h3 (fun j s u hs y=>h4 (j+1) s u (by simpa using hs) (by simpa using y)) D z;refine⟨by rw[dt];simp[G],fun j I J hs y=>?_⟩;rw[dt]at hs
   cases j with
   |zero=>cases hs;cases y;exact D s u (h4 0 s u rfl rfl)
   |succ j=>exact a2 j I J (by simpa using hs) (by simpa using y)
 |false::hl,s::args,xs,us,h1,h2,h3,h4,D,z=>by
  cases us with
  |nil=>simp at h2
  |cons u us=>
   rw[bp]at h3 z
   cases xs with
   |nil=>simp at h3
   |cons x xs=>
    obtain⟨G,a2⟩:=tz hl args xs us (by simpa using h1) (by simpa using h2) (by simpa using h3) (fun j s u hs y=>h4 (j+1) s u (by simpa using hs) (by simpa using y)) D fun j s x v hs V U=>z (j+1) s x v (by simpa using hs) (by simpa using V) U;refine⟨by rw[dt];simp[G],fun j I J hs y=>?_⟩;rw[dt]at hs
    cases j with
    |zero=>cases hs;cases y;exact .t _ _ (z 0 s x u rfl rfl (h4 0 s u rfl rfl))
    |succ j=>exact a2 j I J (by simpa using hs) (by simpa using y)
 |[],_::_,_,_,h1,_,_,_,_,_=>by simp at h1
 |_::_,[],_,_,h1,_,_,_,_,_=>by simp at h1
theorem vf(g:Cfg)(f:Nat):∀(args:List SV) (k:Nat),(aQ g f k args).length=args.length
 |[],_=>rfl
 |s::r,k=>by rw[aQ];simp[vf g f r]
def HI{g:Cfg}{C:CallF}{dr:Bool}{f:Nat}{args:List SV}{x:SV}{fr':Fr}{ks:List Nat}(hS:ee g.P γ C)(h:iy g C dr fr f args=some (x,fr',ks))(G:ar γ κ fr L w)(us:List Value)(ap:us.length=args.length)(au:∀(j:Nat) (s:SV) (u:Value),args[j]?=some s->us[j]?=some u->SR (MA κ.M fr L) L w s u):
  gR g.P f/\Calls g.P f us.toArray w fun e w'=>∃v,e=.returned v/\∃L',Tr κ.M fr L w fr' L' w' ks/\ar γ κ fr' L' w'/\SR (MA κ.M fr' L') L' w' x v:=by
 unfold iy at h;split at h
 ·cases h
 ·rename_i xs av;split at h
  ·rename_i hh;split at h
   ·cases h
   ·rename_i r ex z;obtain⟨V,z⟩:=hS _ _ _ _ _ z;refine⟨V,?_⟩;have aG:∀(s:SV) (v:Value),SR (MA κ.M fr L) L w s v->True:=fun _ _ _=>trivial;split at h
    ·-- the answer holds no address
     rename_i an;cases h;obtain⟨x1,x2⟩:=qd G (A:=fun _=>True) (fun _ _=>trivial) _ _ av (fun _ _ _ _ _ _=>trivial);have aM:=G.pure (fun _=>True) (fun _ _=>trivial);obtain⟨m1,m2⟩:=tz (L:=L) (w:=w) (A:=MA κ.M fr L) (A':=MA (fun _=>True) [] (fun _=>none)) (L':=fun _=>none) (σ:=bc []) (aQ g f 0 args) args xs us (vf g f args 0) ap.symm x1 au (fun s v Z=>SR.sub _ (Nat.le_refl _) (fun b _ _=>⟨⟨trivial,fun⟨i,_,_,h,_⟩=>by cases h⟩,rfl⟩) (fun i j v hi=>by cases hi) Z) fun j s x v hs hx Z=>VR.on (Nat.le_refl _) (fun b _ _=>⟨⟨trivial,fun⟨i,_,_,h,_⟩=>by cases h⟩,rfl⟩) (x2 j s x v hs hx Z);refine(z ⟨fun _=>True,fun _=>False,fun _=>False,w,fun _=>none⟩ w us.toArray aM rfl (by simpa using m1.symm) fun j s u hs hu=>m2 j s u hs (by simpa using hu)).mono ?_;rintro e w' ⟨v,L',rfl,hC',hr⟩;have J:Below w.heap.size w w':=⟨hC'.os,hC'.tape,hC'.output,hC'.size,fun k V=>hC'.kept k V fun h=>h⟩;exact⟨v,rfl,L,Tr.below J,G.later J,CI _ an v hr⟩
    ·obtain⟨I,U,ad⟩:=G.nq (br fr (bp (aQ g f 0 args) args));obtain⟨x1,x2⟩:=qd G (A:=MA κ.M (freeze fr (br fr (bp (aQ g f 0 args) args))) L) ad _ _ av (oe G);have aB:dX (freeze fr (br fr (bp (aQ g f 0 args) args))) []=some []:=rfl;obtain⟨ab,ag,al⟩:=I.handed (hs:=[]) List.nodup_nil aB;obtain⟨m1,m2⟩:=tz (L:=L) (w:=w) (A:=MA κ.M fr L) (A':=MA (bU κ (freeze fr (br fr (bp (aQ g f 0 args) args))) L w []).M [] (bU κ (freeze fr (br fr (bp (aQ g f 0 args) args))) L w []).L) (L':=(bU κ (freeze fr (br fr (bp (aQ g f 0 args) args))) L w []).L) (σ:=bc []) (aQ g f 0 args) args xs us (vf g f args 0) ap.symm x1 au (fun s v Z=>al s v (U.sr Z)) fun j s x v hs hx Z=>VR.on (Nat.le_refl _) (fun b _ J=>⟨ag b J,rfl⟩) (x2 j s x v hs hx Z);have D:=z (bU κ (freeze fr (br fr (bp (aQ g f 0 args) args))) L w []) w us.toArray ab rfl (by simpa using m1.symm) fun j s u hs hu=>m2 j s u hs (by simpa using hu);split at h
     ·-- in the text's order: what came back is taken into the list
      cases h;refine D.mono ?_;rintro e w' ⟨v,L',rfl,hC',hr⟩;obtain⟨b1,b2,b3,b4⟩:=I.back List.nodup_nil aB hC' rfl
      have e1:Go.Proofs.YtcgdbhlnkificaaGreatDoor.back [] (freeze fr (br fr (bp (aQ g f 0 args) args))) ex=freeze fr (br fr (bp (aQ g f 0 args) args))++ex.map (fun b=>cU (b.sub (dO [] fr.length))):=by
       unfold Go.Proofs.YtcgdbhlnkificaaGreatDoor.back;rw[qR];simp[nu,dL,e_]
      rw[qR]at b1 b2 b4;rw[e1]at b1 b2 b4;exact⟨v,rfl,_,(U.trans (ks:=[]) b2),b1,b4 _ v hr⟩
     ·-- drawn: as trees
      split at h
      ·rename_i aT;rw[aT]at D I
       have ax:∀{ex:Fr} {L':Ls} {b:Nat},MA (bU κ (freeze fr []) L w []).M ex L' b->MA κ.M fr L b:=fun{ex L' b} hm=>by
        rcases hm.1 with h|h|⟨i,hi,_⟩
        ·exact h
        ·exact⟨G.fresh b (Nat.le_trans G.size h),fun ho=>by have:=(G.own ho).1;omega⟩
        ·cases hi
       split at h
       ·rename_i aR;cases h;refine D.mono ?_;rintro e w' ⟨v,L',rfl,hC',hr⟩;have J:Below w.heap.size w w':=⟨hC'.os,hC'.tape,hC'.output,hC'.size,fun k V=>hC'.kept k V fun⟨i,hi,_⟩=>by cases hi⟩;exact⟨v,rfl,L,Tr.below J,G.later J,SR.D6 (fun b _ hm=>⟨ax hm,rfl⟩) (Nat.le_refl _) hr aR⟩
       ·split at h
        ·rename_i y hy;cases h;refine D.mono ?_;rintro e w' ⟨v,L',rfl,hC',hr⟩;have J:Below w.heap.size w w':=⟨hC'.os,hC'.tape,hC'.output,hC'.size,fun k V=>hC'.kept k V fun⟨i,hi,_⟩=>by cases hi⟩;refine⟨v,rfl,L,Tr.below J,G.later J,.t _ _ ((nH hC' (A:=MA κ.M fr L) (fun b hm=>ax hm) deep).1 r y v hy (fun i _ u b hu aX=>?_) hr)⟩;have aN:=hC'.lim i u hu;rcases(hC'.new i u b ex[i] hu aX (List.getElem?_eq_getElem aN)).2.2.1 with h|⟨k,V,_⟩
         ·exact⟨G.fresh b (Nat.le_trans G.size h),fun ho=>by have:=(G.own ho).1;have h':w.heap.size<=b:=h;omega⟩
         ·cases V
        ·cases h
      ·cases h
  ·rename_i h0 ht hh;split at h
   ·cases h
   ·simp only at h;split at h
    ·cases h
    ·rename_i bs aA;split at h
     ·cases h
     ·split at h
      ·cases h
      ·rename_i r aY z;split at h
       ·cases h
       ·rename_i ao;cases h;obtain⟨V,z⟩:=hS _ _ _ _ _ z;refine⟨V,?_⟩;have aF:(close fr 4 (h0::ht)).Nodup:=xG _ _ _ (by rw[<- hh];exact sB _ _ List.nodup_nil);obtain⟨I,U,ad⟩:=G.nq (br fr (bp (aQ g f 0 args) args));obtain⟨x1,x2⟩:=qd G (A:=MA κ.M (freeze fr (br fr (bp (aQ g f 0 args) args))) L) ad _ _ av (oe G);obtain⟨ab,ag,al⟩:=I.handed aF aA;obtain⟨m1,m2⟩:=tz (L:=L) (w:=w) (A:=MA κ.M fr L) (A':=MA (bU κ (freeze fr (br fr (bp (aQ g f 0 args) args))) L w (close fr 4 (h0::ht))).M (bs.map fun b=>cU (b.sub (bc (close fr 4 (h0::ht))))) (bU κ (freeze fr (br fr (bp (aQ g f 0 args) args))) L w (close fr 4 (h0::ht))).L) (L':=(bU κ (freeze fr (br fr (bp (aQ g f 0 args) args))) L w (close fr 4 (h0::ht))).L) (σ:=bc (close fr 4 (h0::ht))) (aQ g f 0 args) args xs us (vf g f args 0) ap.symm x1 au (fun s v Z=>al s v (U.sr Z)) fun j s x v hs hx Z=>VR.on (Nat.le_refl _) (fun b _ J=>⟨ag b J,rfl⟩) (x2 j s x v hs hx Z);refine(z (bU κ (freeze fr (br fr (bp (aQ g f 0 args) args))) L w (close fr 4 (h0::ht))) w us.toArray ab rfl (by simpa using m1.symm) fun j s u hs hu=>m2 j s u hs (by simpa using hu)).mono ?_;rintro e w' ⟨v,L',rfl,hC',hr⟩;obtain⟨b1,b2,b3,b4⟩:=I.back aF aA hC' ao;rw[qR]at b1 b2 b4;exact⟨v,rfl,_,((U.Qq fun i hi=>by cases hi).trans b2),b1,b4 _ v hr⟩
end
def nt:Obj->Bool
 | .deferred _=>true
 | .loop _=>true
 | .mapIter ..=>true
 |_=>false
structure Lq (B:Nat) (w w':World):Prop where
 os:w'.os=w.os
 tape:w'.tape=w.tape
 output:w'.output=w.output
 size:w'.heap.size=w.heap.size
 blk:∀b,w'.heap[b]?=w.heap[b]?\/(B<=b/\∃o,w.heap[b]?=some o/\nt o=true)
def Lq.refl{B:Nat}{w:World}:Lq B w w:=⟨rfl,rfl,rfl,rfl,fun _=>.inl rfl⟩
def Lq.put{B:Nat}{w:World}{b:Nat}{o y:Obj}(v:B<=b)(h:w.heap[b]?=some o)(ho:nt o=true):Lq B w (w.putObj b y):=
 ⟨rfl,rfl,rfl,by simp[World.putObj],fun k=>by
  by_cases u:k=b
  ·subst u;exact .inr ⟨v,o,h,ho⟩
  ·exact .inl (World.putObj_heap_other u)⟩
theorem Lq.trans{B:Nat}{w w' u:World}(h:Lq B w w')(k:Lq B w' u)(hs:∀(b:Nat) (o:Obj),w.heap[b]?=some o->nt o=true->∃y,w'.heap[b]?=some y/\nt y=true):Lq B w u:=
 ⟨k.os.trans h.os,k.tape.trans h.tape,k.output.trans h.output,k.size.trans h.size,fun b=>by
  rcases h.blk b with h1|⟨v,o,h1,h2⟩
  ·rcases k.blk b with h3|⟨v,o,h3,h4⟩
   ·exact .inl (h3.trans h1)
   ·exact .inr ⟨v,o,by rw[<- h1];exact h3,h4⟩
  ·exact .inr ⟨v,o,h1,h2⟩⟩
section
variable {B:Nat} {w w':World}
def Lq.gY(h:Lq B w w'){b:Nat}{o:Obj}(hb:w.heap[b]?=some o)(ho:nt o=false):w'.heap[b]?=w.heap[b]?:=by
 rcases h.blk b with h1|⟨_,u,h1,h2⟩
 ·exact h1
 ·rw[hb]at h1;cases h1;rw[ho]at h2;cases h2
def HS{w:World}{a:Addr}{v:Value}(h:w.cell? a=some v):∃o,w.heap[a.block]?=some o/\nt o=false:=by
 unfold World.cell? at h
 cases u:w.heap[a.block]? with
 |none=>rw[u]at h;simp at h
 |some o=>
  rw[u]at h;refine⟨o,rfl,?_⟩;cases o <;>simp_all[nt]
theorem Lq.cell(h:Lq B w w'){a:Addr}{v:Value}(hc:w.cell? a=some v):w'.cell? a=some v:=by
 obtain⟨o,h1,h2⟩:=HS hc;obtain⟨b,p,s⟩:=a;rw[World.cell?_of_block (w:=w) (h.gY h1 h2)];exact hc
def VR.lq{M:Nat->Prop}(hq:Lq B w w'){x:AV}{v:Value}(h:VR M w x v):VR M w' x v:=by
 induction h with
 |int k n=>exact .int k n
 |bool b=>exact .bool b
 |str s=>exact .str s
 |bS A c=>exact .bS A c
 |arr b o c sz es z I ab V U u ad hc hr y=>exact .arr b o c sz es z I ab V (by rw[hq.size];exact U) u ad (fun k j hk hj=>hq.cell (hc k j hk hj)) y
 |tp b o G z I U u hc hr y=>exact .tp b o G z I (by rw[hq.size];exact U) u (fun j hj=>hq.cell (hc j hj)) y
 |agg G z Z hr y=>exact .agg G z Z y
 |aN G z Z hr y=>exact .aN G z Z y
 |fn f G fs z Z hr y=>exact .fn f G fs z Z y
 |mp r ks vs J D U u hh hk hv an ao ag al=>exact .mp r ks vs J D (by rw[hq.size];exact U) u (by rw[hq.gY hh rfl];exact hh) hk hv ag al
 |lit v h=>exact .lit v h
 |lz t v=>exact .lz t v
theorem SR.lq{A:Nat->Prop}{L:Ls}(hq:Lq B w w'){x:SV}{v:Value}(h:SR A L w x v):SR A L w' x v:=by
 induction h with
 |t x v h=>exact .t x v (h.lq hq)
 |nil=>exact .nil
 |tc G a h=>exact .tc G a (h.lq hq)
 |nn G a c h=>exact .nn G a c (h.lq hq)
 |lp i j g h=>exact .lp i j g h
 |ls i v h I=>exact .ls i v h I
 |lv i sz a n b m c h=>exact .lv i sz a n b m c h
 |le i sz k j b m c h=>exact .le i sz k j b m c h
 |lm i r h=>exact .lm i r h
 |lo i p t v h J I=>exact .lo i p t v h J I
 |lr i p k b n c t h J=>exact .lr i p k b n c t h J
 |agg y D z U u=>exact .agg y D z u
 |aN y D z U u=>exact .aN y D z u
 |fn f y V D z U u=>exact .fn f y V D z u
 |aT x v h u=>exact .aT x v u
 |no=>exact .no
 |dead v=>exact .dead v
def E6{T:TypeId}{sz n:Nat}{v:Value}{us:List Value}(h:cm w T sz v n us){k:Nat}(hk:bv v=some k):∃o,w.heap[k]?=some o/\nt o=false:=by
 rcases h with⟨_,_,a,rfl⟩|h
 ·cases a <;>cases hk
 ·rcases h.2 with⟨rfl,U⟩|⟨g,cap,y,rfl,z,u,I,D,G,J⟩
  ·cases hk
  ·cases cap with
   |zero=>cases hk
   |succ c=>cases hk;exact⟨_,u,rfl⟩
theorem jV.lq{A:Nat->Prop}{L:Ls}(hq:Lq B w w'){i:Nat}{b:Lb}(h:jV A L w i b):jV A L w' i b:=by
 cases b with
 |box ro T U=>
  obtain⟨g,us,h1,h2,h3,h4⟩:=h;exact⟨g,us,h1,by rw[hq.gY h2 rfl];exact h2,h3,fun j x u J I=>(h4 j x u J I).lq hq⟩
 |row ro ab sz es=>
  obtain⟨T,v,us,h1,h2,V,h3,h4⟩:=h;refine⟨T,v,us,h1,h2.same fun k Z=>?_,V,h3,fun k j U x Z hj=>?_⟩
  ·obtain⟨o,z,G⟩:=E6 h2 Z;exact hq.gY z G
  ·obtain⟨u,z,G⟩:=h4 k j U x Z hj;exact⟨u,z,G.lq hq⟩
 |map ro ks vs=>
  obtain⟨r,D,y,h1,h2,h3,h4,z,G,h7⟩:=h;exact⟨r,D,y,h1,by rw[hq.gY h2 rfl];exact h2,h3,h4,fun j x u J I=>(z j x u J I).lq hq,fun j x u J I=>(G j x u J I).lq hq,h7⟩
 |own ro x=>
  obtain⟨v,t,h1,h2⟩:=h;refine⟨v,t,h1,h2.same fun b hb=>?_⟩;obtain⟨_,U,T,z⟩:=h2.lt b hb;exact hq.gY z rfl
variable {γ:Glob} {κ:Ctx} {fr:Fr} {L:Ls}
theorem ar.lq(hq:Lq κ.W.heap.size w w')(h:ar γ κ fr L w):ar γ κ fr L w' where
 glob:=γ.stays _ _ h.glob fun k y=>by
  rcases hq.blk k with h1|⟨z,_⟩
  ·exact h1
  ·have:=h.gn;omega
 gn:=h.gn
 gx:=h.gx
 fresh:=h.fresh
 os:=hq.os.trans h.os
 tape:=hq.tape.trans h.tape
 output:=hq.output.trans h.output
 size:=by rw[hq.size];exact h.size
 kept:=fun k y G=>by
  rcases hq.blk k with h1|⟨z,_⟩
  ·exact h1.trans (h.kept k y G)
  ·omega
 lim:=h.lim
 new:=fun i v b u h1 h2 h3=>by rw[hq.size];exact h.new i v b u h1 h2 h3
 dis:=h.dis
 hand:=h.hand
 blk:=fun i u D=>(h.blk i u D).lq hq
def ar.mark(h:ar γ κ fr L w){D:Nat}{o:Obj}(U:κ.W.heap.size<=D)(G:w.heap[D]?=some o)(ho:nt o=true):MA κ.M fr L D:=by
 refine⟨h.fresh D U,fun⟨i,v,lb,h1,h2,h3,_⟩=>?_⟩;have I:=h.blk i lb h3
 cases lb with
 |box V T cs=>
  obtain⟨g,us,h4,u,_⟩:=I;rw[h1]at h4;cases h4;cases h2.of rfl;rw[G]at u;cases u;cases ho
 |row V ab sz es=>
  obtain⟨T,v',us,h4,u,_⟩:=I;rw[h1]at h4;cases h4;obtain⟨o',z,y⟩:=E6 u (h2.of (by obtain⟨_,_,rfl⟩:=u.form;rfl));rw[G]at z;cases z;rw[ho]at y;cases y
 |map V ks vs=>
  obtain⟨r,Z,J,h4,u,_⟩:=I;rw[h1]at h4;cases h4;cases h2.of rfl;rw[G]at u;cases u;cases ho
 |own V x=>
  obtain⟨v',t,h4,z⟩:=I;rw[h1]at h4;cases h4;obtain⟨_,cs,T,y⟩:=z.lt D h2;rw[G]at y;cases y;cases ho
def Marks(κ:Ctx)(w:World)(ds:List Deferred):Prop:=(∃u:List Nat,u.Nodup/\ds=u.map (fun D=>{target:=.collected D,args:=#[]})/\∀D∈u,κ.W.heap.size<=D/\w.heap[D]?=some (.deferred (some [])))/\(κ.H κ.W.heap.size->ds=[])
def Marks.nil:Marks κ w []:=⟨⟨[],List.nodup_nil,rfl,fun D h=>by cases h⟩,fun _=>rfl⟩
def Marks.tr{fr':Fr}{L':Ls}{ks:List Nat}{ds:List Deferred}(h:Marks κ w ds)(z:ar γ κ fr L w)(G:Tr κ.M fr L w fr' L' w' ks):Marks κ w' ds:=by
 obtain⟨⟨y,h1,h2,h3⟩,h4⟩:=h;refine⟨⟨y,h1,h2,fun D u=>⟨(h3 D u).1,?_⟩⟩,h4⟩;have v:=(Array.getElem?_eq_some_iff.1 (h3 D u).2).1;rw[(G.same D v (z.mark (h3 D u).1 (h3 D u).2 rfl)).2];exact(h3 D u).2
theorem yN{F:Fence}{n:Nat}{P:Program}{fn:Func}{tmps:Array Value}{R:Ending->World->Prop}{B:Nat}:∀(u:List Nat) (w:World),u.Nodup->(∀D∈u,B<=D/\w.heap[D]?=some (.deferred (some [])))->
  (∀w',Lq B w w'->∃v,(results fn tmps).run P w'=.ok v w'/\R (.returned v) w')->LeavesInM F n P fn tmps R (u.map (fun D=>{target:=.collected D,args:=#[]})) .returning w
 |[],w,_,_,h=>h w Lq.refl
 |D::u,w,U,I,h=>by
  have z:=I D (by simp);refine⟨by simp,.inl ⟨D,_,rfl,run_takeDeferred z.2,?_⟩⟩;refine yN (B:=B) u _ (List.nodup_cons.1 U).2 (fun E J=>?_) fun w' hq=>h w' ?_
  ·have G:E≠D:=fun e=>(List.nodup_cons.1 U).1 (by rw[<- e];exact J);have:=I E (by simp[J]);exact⟨this.1,(World.putObj_heap_other G).trans this.2⟩
  ·refine(Lq.put z.1 z.2 rfl).trans hq fun b o V Z=>?_;by_cases y:b=D
   ·subst y;exact⟨_,World.putObj_heap_same (Array.getElem?_eq_some_iff.1 z.2).1,rfl⟩
   ·exact⟨o,(World.putObj_heap_other y).trans V,Z⟩
end
section
variable {P:Program} {γ:Glob} {κ:Ctx} {fr:Fr} {L:Ls} {w:World}
def BI{A:Nat->Prop}{s:SV}{v:Value}{f:Nat}{V bs:List SV}(h:eK s=some (f,V,bs))(hs:SR A L w s v):∃fs us:Array Value,v=.func (.func f) fs us/\V.length=fs.size/\bs.length=us.size/\(∀(j:Nat) (x:SV) (u:Value),V[j]?=some x->fs[j]?=some u->SR A L w x u)/\∀(j:Nat) (x:SV) (u:Value),bs[j]?=some x->us[j]?=some u->SR A L w x u:=by
 have I:∀{cs:List SV} {fs us:Array Value},(fs++us).size=cs.length->(∀(j:Nat) (x:SV) (u:Value),cs[j]?=some x->(fs++us)[j]?=some u->SR A L w x u)->(cs.take fs.size).length=fs.size/\(cs.drop fs.size).length=us.size/\(∀(j:Nat) (x:SV) (u:Value),(cs.take fs.size)[j]?=some x->fs[j]?=some u->SR A L w x u)/\∀(j:Nat) (x:SV) (u:Value),(cs.drop fs.size)[j]?=some x->us[j]?=some u->SR A L w x u:=fun{cs fs us} G z=>by
  rw[Array.size_append]at G;refine⟨by rw[List.length_take];omega,by rw[List.length_drop];omega,fun j x u y D=>?_,fun j x u y D=>?_⟩
  ·have Z:=(Array.getElem?_eq_some_iff.1 D).1;rw[List.getElem?_take,if_pos Z]at y;exact z j x u y (by rw[Array.getElem?_append_left Z];exact D)
  ·rw[List.getElem?_drop]at y;exact z _ x u y (by rw[Array.getElem?_append_right (by omega),Nat.add_sub_cancel_left];exact D)
 unfold eK at h;split at h
 ·rename_i f' nf cs;cases h
  cases hs with
  |t _ _ hs=>
   cases hs with
   |fn _ _ fs us G z=>
    have U:(fs++us).size=(cs.map SV.t).length:=by rw[List.length_map];exact G
    have:=I (cs:=cs.map .t) (fs:=fs) (us:=us) U fun j x u y D=>by
     rw[List.getElem?_map]at y
     cases J:cs[j]? with
     |none=>rw[J]at y;cases y
     |some c=>rw[J]at y;cases y;exact .t _ _ (z j c u J D)
    rw[<- List.map_take,<- List.map_drop]at this;exact⟨fs,us,rfl,this⟩
 ·rename_i f' nf cs;cases h
  cases hs with
  |fn _ _ fs us G z=>exact⟨fs,us,rfl,I G z⟩
 ·cases h
def HM{g:Cfg}{C:CallF}{dr:Bool}{env:Env}{dst:Option Tmp}{ty:TypeId}{pos:String}{after:Array Edge}{gd:Option (Nat×Bool)}{c:Operand}{args:Array Operand}{tys:Array TypeId}{x:SV}{fr':Fr}{ks:List Nat}(hS:ee g.P γ C)(h:mX g C dr env fr c args.toList=some (x,fr',ks)):
  dM g.P γ env fr ⟨dst,.call ⟨.value c,args,tys⟩,ty,pos,after,gd⟩ x fr' ks:=fun κ L a w hC U=>by
 unfold mX at h;split at h
 ·cases h
 ·rename_i f ps bs J;obtain⟨V,us,hv,D,ab,Z,ad⟩:=BI J (cu (U c (by simp[Op.operands,Call.operands])))
  have G:∀(j:Nat) (s:SV) (u:Value),(args.toList.map (rd env))[j]?=some s->(args.toList.map a.eval)[j]?=some u->SR (MA κ.M fr L) L w s u:=fun j s u hs z=>by
   rw[List.getElem?_map]at hs z
   cases hy:args.toList[j]? with
   |none=>rw[hy]at hs;cases hs
   |some y=>
    rw[hy]at hs z;cases hs;cases z;exact cu (U y (by simp[Op.operands,Call.operands];exact .inr (by simpa using List.mem_of_getElem? hy)))
  obtain⟨hk,I⟩:=HI hS h hC (V.toList++args.toList.map a.eval++us.toList) (by simp[D,ab]) fun j s u hs z=>by
   rcases Nat.lt_or_ge j (ps++args.toList.map (rd env)).length with h1|h1
   ·rw[List.getElem?_append_left h1]at hs;rw[List.getElem?_append_left (by simp at h1⊢;omega)]at z;rcases Nat.lt_or_ge j ps.length with h2|h2
    ·rw[List.getElem?_append_left h2]at hs;rw[List.getElem?_append_left (by simp;omega),Array.getElem?_toList]at z;exact Z j s u hs z
    ·rw[List.getElem?_append_right h2]at hs;rw[List.getElem?_append_right (by simp;omega),Array.length_toList,<- D]at z;exact G _ s u hs z
   ·rw[List.getElem?_append_right h1]at hs;have e:(V.toList++args.toList.map a.eval).length=(ps++args.toList.map (rd env)).length:=by simp[D]
    rw[List.getElem?_append_right (by omega),e,Array.getElem?_toList]at z;exact ad _ s u hs z
  refine .enter (f:=f) (args:=(V.toList++args.toList.map a.eval++us.toList).toArray) ?_ (I.mono ?_)
  ·have e:(execOp a.eval ⟨dst,.call ⟨.value c,args,tys⟩,ty,pos,after,gd⟩).run g.P w=(callFunc f ((V++args.map a.eval)++us)).run g.P w:=by
    simp[execOp,resolve,Deferred.ofValue,hv,invoke,Sem.run_bind,pure,Sem.run]
   rw[e,z7 hk];congr 2;apply Array.ext';simp
  ·rintro e w' ⟨v,rfl,L',h1,h2,h3⟩;exact⟨v,rfl,L',h1,h2,h3⟩
def Ci{g:Cfg}{C:CallF}{J:Bool}{env:Env}{o:Oper}{x:SV}{fr':Fr}{ks:List Nat}(U:ee g.P γ C)(h:bT g C J env fr o.op=some (x,fr',ks)):dM g.P γ env fr o x fr' ks:=by
 obtain⟨dst,op,ty,pos,after,gd⟩:=o;simp only at h;unfold bT at h;split at h
 ·split at h
  ·rename_i G;cases h;exact Hi G
  ·cases h
 ·split at h
  ·rename_i G;cases h;exact Hy G
  ·cases h
 ·exact Px h
 ·split at h
  ·exact LF h
  ·exact LG h
 ·cases h;exact LD
 ·exact C2 (.inl rfl) h
 ·exact C2 (.inr rfl) h
 ·rename_i t len I;split at h
  ·rename_i V;split at h
   ·rename_i Z;cases h;exact K7 Z V
   ·cases h
  ·cases h
 ·exact HM U h
 ·split at h
  ·rename_i s y t u v z;split at h
   ·rename_i D;obtain rfl:t=u:=by simpa using D
    exact Hm v z h
   ·cases h
  ·cases h
 ·split at h
  ·rename_i x y t u v z;exact Iw v z h
  ·cases h
 ·cases h
def ud{o:Option SV}{fr:Fr}{x:SV}{fr':Fr}{ks:List Nat}(h:uc fr o=some (x,fr',ks)):o=some x/\fr'=fr/\ks=[]:=by
 unfold uc at h;split at h
 ·cases h;exact⟨rfl,rfl,rfl⟩
 ·cases h
def iq(e:Env)(d:Nat)(v:SV):cV e d v d=v:=by unfold cV;simp
def qi{e:Env}{d t:Nat}{v:SV}(h:t≠d):cV e d v t=e t:=by
 unfold cV;have:Nat.beq t d=false:=by rw[<- Bool.not_eq_true,Nat.beq_eq];exact h
 rw[this]
theorem AG:∀(l:List Operand) (t:Nat),t∈jS l->Operand.tmp t∈l
 |[],t,h=>by unfold jS at h;simp at h
 |y::l,t,h=>by
  unfold jS at h;split at h
  ·rename_i e;cases e
  ·rename_i u r e;cases e;rcases List.mem_cons.1 h with rfl|h
   ·exact List.mem_cons_self
   ·exact List.mem_cons_of_mem _ (AG _ t h)
  ·rename_i r _ e;cases e;exact List.mem_cons_of_mem _ (AG _ t h)
theorem GF{A:Nat->Prop}{L:Ls}{w:World}{env:Env}{val:Nat->Value}{t:Nat}(hb:SR A L w (env t) (val t)):∀(z:List Nat) (xs:List AV),(∀(j u:Nat) (x:AV),z[j]?=some u->xs[j]?=some x->VR A w x (val u))->SR A L w (qg env z xs t) (val t)
 |[],xs,_=>by unfold qg;exact hb
 |u::z,[],_=>by unfold qg;exact hb
 |u::z,x::xs,h=>by
  unfold qg;by_cases e:t=u
  ·subst e;rw[iq];exact .t _ _ (h 0 t x rfl rfl)
  ·rw[qi e];exact GF hb z xs fun j v y h1 h2=>h (j+1) v y h1 h2
def I8{P:Program}{env:Env}{o:Oper}{x:SV}{fr':Fr}{ks:List Nat}(h:uX P env fr o.op=some (x,fr',ks)):dM P γ env fr o x fr' ks:=fun κ L a w V D=>by
 obtain⟨dst,op,ty,pos,after,gd⟩:=o;simp only at h D;unfold uX at h;split at h
 ·rename_i t len z;split at h
  ·cases h
  ·rename_i xs ab;unfold uc at h;split at h
   ·rename_i y U;cases h;obtain⟨G,I,Z⟩:=V.nq (br fr ((jS (z.toList.map (·.2))).map fun t=>un (env t)));obtain⟨x1,x2⟩:=qd V Z _ _ ab (oe V)
    have J:∀y,y∈z.toList.map (·.2)->y∈(Op.buildSlice t len z).operands:=fun y U=>by
     obtain⟨p,hp,rfl⟩:=List.mem_map.1 U;simp[Op.operands];exact⟨p.1,by simpa using hp⟩
    have ad:∀(j u:Nat) (x:AV),(jS (z.toList.map (·.2)))[j]?=some u->xs[j]?=some x->VR (MA κ.M (freeze fr (br fr ((jS (z.toList.map (·.2))).map fun t=>un (env t)))) L) w x (a.eval (.tmp u)):=fun j u x hu hx=>
     x2 j _ x _ (by rw[List.getElem?_map,hu];rfl) hx (qh (D _ (J _ (AG _ _ (List.mem_of_getElem? hu)))))
    have:=ye (γ:=γ) (o:=⟨dst,.buildSlice t len z,ty,pos,after,gd⟩) U κ L a w G fun y U=>by
     have h1:=I.sr (D y U)
     cases y with
     |tmp u=>exact GF (val:=fun u=>a.eval (.tmp u)) h1 _ _ ad
     |_=>exact h1
    exact this.mono fun v w' ⟨hb,hv⟩=>⟨L,I.trans (Tr.below hb),G.later hb,hv⟩
   ·cases h
 ·cases h
def yf{g:Cfg}{C:CallF}{env:Env}{o:Oper}{x:SV}{fr':Fr}{ks:List Nat}(u:ee g.P γ C)(h:bX g C env fr o.op=some (x,fr',ks)):dM g.P γ env fr o x fr' ks:=by
 unfold bX at h;split at h
 ·exact Ci u h
 ·split at h
  ·rename_i h1;cases h;exact(ye h1).ok
  ·exact I8 h
def I6{g:Cfg}{C:CallF}{env:Env}{o:Oper}{x:SV}{fr':Fr}{ks:List Nat}(u:ee g.P γ C)(h:gU g C env fr o.op=some (x,fr',ks)):dM g.P γ env fr o x fr' ks:=by
 unfold gU at h;split at h
 ·exact Ci u h
 ·obtain⟨h1,rfl,rfl⟩:=ud h;exact(ye h1).ok
def ii{g:Cfg}{C:CallF}{d:Option (List Nat)}{i:Nat}{env:Env}{o:Oper}{x:SV}{fr':Fr}{ks:List Nat}(u:ee g.P γ C)(h:step g C d i env fr o.op=some (x,fr',ks)):dM g.P γ env fr o x fr' ks:=by
 unfold step at h;split at h
 ·exact yf u h
 ·split at h
  ·exact yf u h
  ·exact I6 u h
end
def QX{e:Env}{d:Option Nat}{t:Nat}{x:SV}(h:d≠some t):aE e d x t=e t:=by
 cases d with
 |none=>rfl
 |some k=>exact qi fun e=>h (by rw[e])
def fx{a:Act}{d:Nat}{v:Value}(h:d <a.tmps.size):(a.put (some d) v).tmps.getD d undef=v:=by
 show(a.tmps.setIfInBounds d v).getD d undef=v
 rw[Array.getD_eq_getD_getElem?,Array.getElem?_setIfInBounds_self_of_lt h];rfl
def cg{a:Act}{d:Option Nat}{t:Nat}{v:Value}(h:d≠some t):(a.put d v).tmps.getD t undef=a.tmps.getD t undef:=by
 cases d with
 |none=>rfl
 |some k=>
  show(a.tmps.setIfInBounds k v).getD t undef=_
  have u:k≠t:=fun e=>h (by rw[e]);rw[Array.getD_eq_getD_getElem?,Array.getElem?_setIfInBounds_ne u,<- Array.getD_eq_getD_getElem?]
def bR(a:Act)(d:Option Nat)(v:Value):(a.put d v).tmps.size=a.tmps.size:=by cases d <;>simp[Act.put]
def put_defers(a:Act)(d:Option Nat)(v:Value):(a.put d v).defers=a.defers:=by cases d <;>rfl
section
variable {A A':Nat->Prop} {L L':Ls} {w w':World}
def lP{env:Env}{a:Act}{d:Option Nat}{x:SV}{v:Value}(h:∀t,SR A L w (env t) (a.tmps.getD t undef))(hx:SR A L w x v)(hd:∀k,d=some k->k <a.tmps.size):
  ∀t,SR A L w (aE env d x t) ((a.put d v).tmps.getD t undef):=by
 intro t
 cases d with
 |none=>exact h t
 |some k=>
  by_cases u:t=k
  ·subst u;rw[fx (hd t rfl)];show SR A L w (cV env t x t) v
   rw[iq];exact hx
  ·rw[cg (by intro e;cases e;exact u rfl)];show SR A L w (cV env k x t) _
   rw[qi u];exact h t
def yv:Option Value->Option Bool
 |some (.bool b)=>some b
 |_=>none
def JH{x:SV}{v:Value}{u W:Bool}(h:SR A L w x v)(hW:qS u x=some W):(yv (some v)==some u)=W:=by
 unfold qS at hW;split at hW
 ·obtain rfl:=kG h;cases hW;rename_i b;cases b <;>cases u <;>rfl
 ·cases h with
  |aT _ _ h=>
   obtain rfl:=kG h;cases hW;rename_i b;cases b <;>cases u <;>rfl
 ·cases h;cases hW;rfl
 ·cases hW
def oY{ops:Array Oper}{env:Env}{tmps:Array Value}{o:Oper}{j:Nat}{u W:Bool}(hg:o.guard=some (j,u))(hW:cG ops env j u=some W)
  (h:∀d,(ops[j]?).bind (·.dst)=some d->SR A L w (env d) (tmps.getD d undef)/\d <tmps.size):Region.wanted o (yielded ops tmps)=W:=by
 unfold cG at hW
 cases hd:(ops[j]?).bind (·.dst)with
 |none=>rw[hd]at hW;cases hW
 |some d=>
  rw[hd]at hW;obtain⟨y,v⟩:=h d hd
  have z:tmps[d]?=some (tmps.getD d undef):=by
   rw[Array.getD_eq_getD_getElem?,Array.getElem?_eq_getElem v];rfl
  have h2:yielded ops tmps j=yv (some (tmps.getD d undef)):=by
   show yv (((ops[j]?).bind (·.dst)).bind (tmps[·]?))=_
   rw[hd,Option.bind_some,z]
  unfold Region.wanted;rw[hg];show(yielded ops tmps j==some u)=W
  rw[h2];exact JH y hW
end
def iA(n:Nat)(l:List Oper):Bool:=l.all fun o=>match o.dst with|some d=>Nat.blt d n|none=>true
def jv{n:Nat}{l:List Oper}(h:iA n l=true){o:Oper}(ho:o∈l){d:Nat}(hd:o.dst=some d):d <n:=by
 have:=List.all_eq_true.1 h o ho;rw[hd]at this;simpa[Nat.blt_eq]using this
def Ek{rd:Option Nat}{dn:Nat}{g:Cfg}{γ:Glob}{C:CallF}(hS:ee g.P γ C){ops:Array Oper}{n:Nat}{κ:Ctx}{Q:Exit->Act->World->Prop}{env':Env}{fr':Fr}(D:iA n ops.toList=true)
  (hK:∀L a w,Marks κ w a.defers->a.tmps.size=n->ar γ κ fr' L w->(∀t,SR (MA κ.M fr' L) L w (env' t) (a.tmps.getD t undef))->Q .normal a w):
  ∀(l:List Oper) (i:Nat) (env:Env) (fr:Fr) (L:Ls) (a:Act) (w:World),(∀o∈l,o∈ops.toList)->dQ g C none ops i l env fr=some (env',fr')->Marks κ w a.defers->a.tmps.size=n->ar γ κ fr L w->(∀t,SR (MA κ.M fr L) L w (env t) (a.tmps.getD t undef))->wpListIn (Fw rd) dn g.P ops Q l a w:=by
 intro l
 induction l with
 |nil=>intro i env fr L a w _ h hd V G z;cases h;exact hK L a w hd V G z
 |cons o r ih=>
  intro i env fr L a w hm h hd V G z;have J:∀k,o.dst=some k->k <a.tmps.size:=fun k hk=>by rw[V];exact jv D (hm o (by simp)) hk
  have U:∀o'∈r,o'∈ops.toList:=fun o' an=>hm o' (by simp[an]);unfold dQ at h;unfold wpListIn;split at h
  ·rename_i hg;rw[if_pos (by simp[Region.wanted,hg])];split at h
   ·rename_i x al ks ab;refine(ii hS ab κ L a w G (fun y _=>nh z y)).wpIn fun v w' ⟨L',hT,I,hv⟩=>?_;exact ih _ _ _ L' _ _ U h (by rw[put_defers];exact hd.tr G hT) (by rw[bR,V]) I (lP (fun t=>hT.env (z t)) hv J)
   ·cases h
  ·rename_i j ag hg
   have ad:∀W,cG ops env j ag=some W->Region.wanted o (yielded ops a.tmps)=W:=fun W hW=>oY hg hW fun d u=>by
    refine⟨z d,?_⟩;rw[V]
    cases Z:ops[j]? with
    |none=>rw[Z]at u;cases u
    |some oj=>
     rw[Z]at u;exact jv D (Array.mem_toList_iff.2 (Array.mem_of_getElem? Z)) u
   split at h
   ·cases h
   ·rename_i hW;rw[ad _ hW,if_pos rfl];split at h
    ·rename_i x al ks ab;refine(ii hS ab κ L a w G (fun y _=>nh z y)).wpIn fun v w' ⟨L',hT,I,hv⟩=>?_;exact ih _ _ _ L' _ _ U h (by rw[put_defers];exact hd.tr G hT) (by rw[bR,V]) I (lP (fun t=>hT.env (z t)) (.aT _ _ hv) J)
    ·cases h
   ·rename_i hW;rw[ad _ hW,if_neg (by simp)];refine⟨fun _ _=>trivial,ih _ _ _ L _ _ U h (by rw[put_defers];exact hd) (by rw[bR,V]) G ?_⟩;exact lP z .no J
def Mm{rd:Option Nat}{dn:Nat}{g:Cfg}{γ:Glob}{C:CallF}(hS:ee g.P γ C){ops:Array Oper}{n:Nat}{κ:Ctx}{Q:Exit->Act->World->Prop}{env':Env}{fr':Fr}{l2:List Oper}(D:iA n ops.toList=true)
  (hK:∀L a w,Marks κ w a.defers->a.tmps.size=n->ar γ κ fr' L w->(∀t,SR (MA κ.M fr' L) L w (env' t) (a.tmps.getD t undef))->wpListIn (Fw rd) dn g.P ops Q l2 a w):
  ∀(l:List Oper) (i:Nat) (env:Env) (fr:Fr) (L:Ls) (a:Act) (w:World),(∀o∈l,o∈ops.toList)->dQ g C none ops i l env fr=some (env',fr')->Marks κ w a.defers->a.tmps.size=n->ar γ κ fr L w->(∀t,SR (MA κ.M fr L) L w (env t) (a.tmps.getD t undef))->wpListIn (Fw rd) dn g.P ops Q (l++l2) a w:=by
 intro l
 induction l with
 |nil=>intro i env fr L a w _ h hd V G z;cases h;exact hK L a w hd V G z
 |cons o r ih=>
  intro i env fr L a w hm h hd V G z;have J:∀k,o.dst=some k->k <a.tmps.size:=fun k hk=>by rw[V];exact jv D (hm o (by simp)) hk
  have U:∀o'∈r,o'∈ops.toList:=fun o' an=>hm o' (by simp[an]);unfold dQ at h;rw[List.cons_append];unfold wpListIn;split at h
  ·rename_i hg;rw[if_pos (by simp[Region.wanted,hg])];split at h
   ·rename_i x al ks ab;refine(ii hS ab κ L a w G (fun y _=>nh z y)).wpIn fun v w' ⟨L',hT,I,hv⟩=>?_;exact ih _ _ _ L' _ _ U h (by rw[put_defers];exact hd.tr G hT) (by rw[bR,V]) I (lP (fun t=>hT.env (z t)) hv J)
   ·cases h
  ·rename_i j ag hg
   have ad:∀W,cG ops env j ag=some W->Region.wanted o (yielded ops a.tmps)=W:=fun W hW=>oY hg hW fun d u=>by
    refine⟨z d,?_⟩;rw[V]
    cases Z:ops[j]? with
    |none=>rw[Z]at u;cases u
    |some oj=>
     rw[Z]at u;exact jv D (Array.mem_toList_iff.2 (Array.mem_of_getElem? Z)) u
   split at h
   ·cases h
   ·rename_i hW;rw[ad _ hW,if_pos rfl];split at h
    ·rename_i x al ks ab;refine(ii hS ab κ L a w G (fun y _=>nh z y)).wpIn fun v w' ⟨L',hT,I,hv⟩=>?_;exact ih _ _ _ L' _ _ U h (by rw[put_defers];exact hd.tr G hT) (by rw[bR,V]) I (lP (fun t=>hT.env (z t)) (.aT _ _ hv) J)
    ·cases h
   ·rename_i hW;rw[ad _ hW,if_neg (by simp)];refine⟨fun _ _=>trivial,ih _ _ _ L _ _ U h (by rw[put_defers];exact hd) (by rw[bR,V]) G ?_⟩;exact lP z .no J
def tmpsOf(o:Oper):List Nat:=o.op.operands.toList.filterMap fun|.tmp t=>some t|_=>none
def dC(o:Oper)(k:Nat):Bool:=o.after.any fun e=>Region.binds .any e&&Nat.beq e.on k
def n8(ops:Array Oper)(i:Nat)(o:Oper):Bool:=
 (o.after.all fun e=>!Region.binds .any e ||Nat.blt e.on i)&&
 (match o.guard with|some (j,_)=>dC o j|none=>true)&&
 (List.range ops.size).all fun k=>match ops[k]? with
  |none=>true
  |some ok=>Nat.beq k i ||match ok.dst with
   |none=>true
   |some d=>(match o.dst with|some u=>!Nat.beq d u|none=>true)&&((tmpsOf o).all fun t=>!Nat.beq t d ||dC o k ||dC ok i)
def effOk(ops:Array Oper)(effs:List Nat):Bool:=match effs with
 |[]=>true
 |_=>effs.all fun i=>(List.range ops.size).all fun k=>Nat.beq k i ||(match Nat.blt k i with|true=>((Region.before ops).getD i 0).testBit k|false=>((Region.before ops).getD k 0).testBit i)
def uQ(ops:Array Oper)(effs:List Nat):Bool:=((List.range ops.size).all fun i=>match ops[i]? with|none=>true|some o=>n8 ops i o)&&effs.all fun i=>effs.all fun k=>!Nat.blt k i ||(Nat.ble ops.size i ||((Region.before ops).getD i 0).testBit k)
def xR(ops:Array Oper)(effs:List Nat):Bool:=((List.range ops.size).all fun i=>match ops[i]? with|none=>true|some o=>n8 ops i o)&&effOk ops effs
def GH(ops:Array Oper)(N m k:Nat):Bool:=match ops[N+k]?,ops[N+m+k]? with
 |some v,some u=>match v.dst,v.op,u.op with
  |some d,.alloc _,.store _ (.tmp d') x=>Nat.beq d d'&&v.guard.isNone&&u.guard.isNone&&u.dst.isNone&&dC u (N+k)&&(match x with|.tmp t=>!Nat.beq t d|_=>true)&&(List.range ops.size).all fun j=>match ops[j]? with
   |some o=>Nat.beq j (N+m+k)||!bI (tmpsOf o) d
   |none=>true
  |_,_,_=>false
 |_,_=>false
def uP(ops:Array Oper)(effs:List Nat):Bool:=match effs with
 |[]=>false
 |N::r=>((List.range ops.size).all fun i=>match ops[i]? with|none=>true|some o=>n8 ops i o)&&Nat.beq ops.size (N+(N::r).length)&&Nat.beq (N::r).length ((N::r).length/2+(N::r).length/2)&&(N::r)==(List.range (N::r).length).map (N+·)&&(List.range ((N::r).length/2)).all (GH ops N ((N::r).length/2))
def iX{o:Oper}{k:Nat}(h:dC o k=true):∃e∈o.after,Region.binds .any e=true/\e.on=k:=by
 unfold dC at h;rw[Array.any_eq_true]at h;obtain⟨i,u,h⟩:=h;rw[Bool.and_eq_true]at h;exact⟨o.after[i],Array.getElem_mem u,h.1,by simpa using h.2⟩
inductive gG (ops:Array Oper):Nat->Nat->Prop where
 |one (i:Nat) (o:Oper) (e:Edge):ops[i]?=some o->e∈o.after->Region.binds .any e=true->gG ops i e.on
 |more (i k:Nat) (o:Oper) (e:Edge):ops[i]?=some o->e∈o.after->Region.binds .any e=true->gG ops e.on k->gG ops i k
def uA(u:Array Nat)(o:Oper):Nat:=o.after.foldl (fun s e=>if Region.binds .any e then s |||2^e.on |||u.getD e.on 0 else s) 0
def Hj{u:Array Nat}{o:Oper}{k:Nat}(h:(uA u o).testBit k=true):∃e∈o.after,Region.binds .any e=true/\(e.on=k\/(u.getD e.on 0).testBit k=true):=by
 unfold uA at h;rw[<- Array.foldl_toList]at h
 have y:∀(l:List Edge) (s:Nat),(l.foldl (fun s e=>if Region.binds .any e then s |||2^e.on |||u.getD e.on 0 else s) s).testBit k=true->s.testBit k=true\/∃e∈l,Region.binds .any e=true/\(e.on=k\/(u.getD e.on 0).testBit k=true):=fun l=>by
  induction l with
  |nil=>intro s h;exact .inl h
  |cons e l G=>
   intro s h;rw[List.foldl_cons]at h;rcases G _ h with h|⟨D,v,h1,h2⟩
   ·split at h
    ·rename_i z;rw[Nat.testBit_or,Nat.testBit_or,Bool.or_eq_true,Bool.or_eq_true]at h;rcases h with(h|h)|h
     ·exact .inl h
     ·rw[Nat.testBit_two_pow,decide_eq_true_iff]at h;exact .inr ⟨e,by simp,z,.inl h⟩
     ·exact .inr ⟨e,by simp,z,.inr h⟩
    ·exact .inl h
   ·exact .inr ⟨D,by simp[v],h1,h2⟩
 rcases y _ _ h with h|⟨e,v,h⟩
 ·simp at h
 ·exact⟨e,Array.mem_toList_iff.1 v,h⟩
def mV{ops:Array Oper}{i k:Nat}(h:((Region.before ops).getD i 0).testBit k=true):gG ops i k:=by
 have y:∀(l:List Oper) (u:Array Nat),(∀(q:Nat) (o:Oper),l[q]?=some o->ops[u.size+q]?=some o)->(∀i k,(u.getD i 0).testBit k=true->gG ops i k)->∀i k,((l.foldl (fun u o=>u.push (uA u o)) u).getD i 0).testBit k=true->gG ops i k:=fun l=>by
  induction l with
  |nil=>intro u _ h2 i k h;exact h2 i k h
  |cons o l J=>
   intro u h1 h2 i k h;rw[List.foldl_cons]at h;refine J _ (fun q U v=>?_) (fun i k h=>?_) i k h
   ·have:=h1 (q+1) U (by simpa using v);rw[Array.size_push,Nat.add_assoc,Nat.add_comm 1 q];exact this
   ·rw[Array.getD_eq_getD_getElem?,Array.getElem?_push]at h;split at h
    ·rename_i I;subst I;obtain⟨e,D,z,h3⟩:=Hj h;have G:ops[u.size]?=some o:=by have:=h1 0 o rfl;rwa[Nat.add_zero]at this
     rcases h3 with h3|h3
     ·subst h3;exact .one _ o e G D z
     ·exact .more _ k o e G D z (h2 _ _ h3)
    ·rw[<- Array.getD_eq_getD_getElem?]at h;exact h2 i k h
 refine y ops.toList #[] (fun q o v=>by simpa using v) (fun i k h=>by simp at h) i k ?_
 have e:Region.before ops=ops.toList.foldl (fun u o=>u.push (uA u o)) #[]:=by
  unfold Region.before;rw[<- Array.foldl_toList];rfl
 rw[<- e];exact h
structure r5 (ops:Array Oper) (effs:List Nat):Prop where
 back:∀(i:Nat) (o:Oper),ops[i]?=some o->∀e∈o.after,Region.binds .any e=true->e.on <i
 guard:∀(i:Nat) (o:Oper) (j:Nat) (want:Bool),ops[i]?=some o->o.guard=some (j,want)->dC o j=true
 dst:∀(i:Nat) (o:Oper) (k:Nat) (ok:Oper) (d:Nat),ops[i]?=some o->ops[k]?=some ok->k≠i->ok.dst=some d->o.dst≠some d
 use:∀(i:Nat) (o:Oper) (k:Nat) (ok:Oper) (d:Nat),ops[i]?=some o->ops[k]?=some ok->k≠i->ok.dst=some d->.tmp d∈o.op.operands->dC o k=true\/dC ok i=true
 eff:∀i∈effs,∀k,k <ops.size->(k <i->gG ops i k)/\(i <k->gG ops k i)
structure DrawB (ops:Array Oper):Prop where
 back:∀(i:Nat) (o:Oper),ops[i]?=some o->∀e∈o.after,Region.binds .any e=true->e.on <i
 guard:∀(i:Nat) (o:Oper) (j:Nat) (want:Bool),ops[i]?=some o->o.guard=some (j,want)->dC o j=true
 dst:∀(i:Nat) (o:Oper) (k:Nat) (ok:Oper) (d:Nat),ops[i]?=some o->ops[k]?=some ok->k≠i->ok.dst=some d->o.dst≠some d
 use:∀(i:Nat) (o:Oper) (k:Nat) (ok:Oper) (d:Nat),ops[i]?=some o->ops[k]?=some ok->k≠i->ok.dst=some d->.tmp d∈o.op.operands->dC o k=true\/dC ok i=true
def xQ{ops:Array Oper}(h:((List.range ops.size).all fun i=>match ops[i]? with|none=>true|some o=>n8 ops i o)=true):DrawB ops:=by
 have I:∀i o,ops[i]?=some o->n8 ops i o=true:=fun i o v=>by
  have D:i <ops.size:=(Array.getElem?_eq_some_iff.1 v).1;have:=List.all_eq_true.1 h i (List.mem_range.2 D);simpa[v]using this
 have U:∀i o k ok,ops[i]?=some o->ops[k]?=some ok->k≠i->∀d,ok.dst=some d->(∀G,o.dst=some G->d≠G)/\∀t∈tmpsOf o,t=d->(dC o k=true\/dC ok i=true):=fun i o k ok v u y d hd=>by
  have h1:=I i o v;unfold n8 at h1;rw[Bool.and_eq_true]at h1;have D:k <ops.size:=(Array.getElem?_eq_some_iff.1 u).1;have h2:=List.all_eq_true.1 h1.2 k (List.mem_range.2 D);simp only[u,hd]at h2;have h3:Nat.beq k i=false:=by rw[<- Bool.not_eq_true,Nat.beq_eq];exact y
  rw[h3,Bool.false_or,Bool.and_eq_true]at h2;refine⟨fun G z=>?_,fun t ht J=>?_⟩
  ·have:=h2.1;rw[z]at this;intro e;subst e;simp at this
  ·have h4:=List.all_eq_true.1 h2.2 t ht;subst J;simpa using h4
 refine⟨fun i o v e he Z=>?_,fun i o j V v hg=>?_,fun i o k ok d v u y hd z=>(U i o k ok v u y d hd).1 d z rfl,fun i o k ok d v u y hd hm=>(U i o k ok v u y d hd).2 d ?_ rfl⟩
 ·have h1:=I i o v;unfold n8 at h1;rw[Bool.and_eq_true,Bool.and_eq_true]at h1;have h2:=(Array.all_eq_true_iff_forall_mem.1 h1.1.1) e he;rw[Z]at h2;simpa[Nat.blt_eq]using h2
 ·have h1:=I i o v;unfold n8 at h1;rw[Bool.and_eq_true,Bool.and_eq_true]at h1;have h2:=h1.1.2;rw[hg]at h2;exact h2
 ·unfold tmpsOf;rw[List.mem_filterMap];exact⟨.tmp d,Array.mem_toList_iff.2 hm,rfl⟩
def IK{ops:Array Oper}{effs:List Nat}(h:xR ops effs=true):r5 ops effs:=by
 unfold xR at h;rw[Bool.and_eq_true]at h;obtain⟨h,G⟩:=h;have y:=xQ h;refine⟨y.back,y.guard,y.dst,y.use,fun i u k I=>?_⟩;unfold effOk at G;split at G
 ·cases u
 ·have h1:=List.all_eq_true.1 (List.all_eq_true.1 G i u) k (List.mem_range.2 I);refine⟨fun v=>?_,fun v=>?_⟩
  ·have z:Nat.beq k i=false:=by rw[<- Bool.not_eq_true,Nat.beq_eq];omega
   have D:Nat.blt k i=true:=by rw[Nat.blt_eq];exact v
   rw[z,D,Bool.false_or]at h1;exact mV h1
  ·have z:Nat.beq k i=false:=by rw[<- Bool.not_eq_true,Nat.beq_eq];omega
   have D:Nat.blt k i=false:=by rw[<- Bool.not_eq_true,Nat.blt_eq];omega
   rw[z,D,Bool.false_or]at h1;exact mV h1
structure ql (ops:Array Oper) (effs:List Nat):Prop extends DrawB ops where
 eff:∀i∈effs,∀k∈effs,i <ops.size->k <i->gG ops i k
def B9{ops:Array Oper}{effs:List Nat}(h:uQ ops effs=true):ql ops effs:=by
 unfold uQ at h;rw[Bool.and_eq_true]at h;obtain⟨h,z⟩:=h;refine{xQ h with eff:=fun i D k G hs u=>?_};have h1:=List.all_eq_true.1 (List.all_eq_true.1 z i D) k G;have v:Nat.blt k i=true:=by rw[Nat.blt_eq];exact u
 have y:Nat.ble ops.size i=false:=by rw[<- Bool.not_eq_true,Nat.ble_eq];omega
 rw[v,y]at h1;exact mV (by simpa using h1)
def fC(listed:Array Bool)(n:Nat):Nat:=(List.range n).countP fun i=>!listed.getD i true
theorem rV{listed:Array Bool}{i:Nat}(hi:listed.getD i true=false):∀n,fC (listed.setIfInBounds i true) n+(if i <n then 1 else 0)=fC listed n
 |0=>by simp[fC]
 |n+1=>by
  have v:=rV hi n
  have y:i <listed.size:=by
   rcases Nat.lt_or_ge i listed.size with h|h
   ·exact h
   ·rw[Array.getD_eq_getD_getElem?,Array.getElem?_eq_none h]at hi;cases hi
  unfold fC at v⊢;rw[List.range_succ,List.countP_append,List.countP_append];by_cases u:i=n
  ·subst u
   have h1:(listed.setIfInBounds i true).getD i true=true:=by
    rw[Array.getD_eq_getD_getElem?,Array.getElem?_setIfInBounds_self_of_lt y];rfl
   simp only[List.countP_cons,List.countP_nil,h1,hi]at v⊢;simp at v⊢;omega
  ·have h1:(listed.setIfInBounds i true).getD n true=listed.getD n true:=by
    rw[Array.getD_eq_getD_getElem?,Array.getElem?_setIfInBounds_ne u,<- Array.getD_eq_getD_getElem?]
   simp only[List.countP_cons,List.countP_nil,h1]at v⊢
   have D:(if i <n+1 then 1 else 0)=(if i <n then 1 else 0):=by
    by_cases h2:i <n
    ·rw[if_pos h2,if_pos (by omega)]
    ·rw[if_neg h2,if_neg (by omega)]
   rw[D];generalize(if i <n then 1 else 0)=z at*
   omega
def iB{listed:Array Bool}{k:Nat}(h:listed.getD k false=true):listed.getD k true=true:=by
 rw[Array.getD_eq_getD_getElem?]at h⊢
 cases u:listed[k]? with
 |none=>rfl
 |some b=>rw[u]at h;exact h
def CS{listed:Array Bool}{k:Nat}(hk:k <listed.size)(h:listed.getD k true=true):listed.getD k false=true:=by
 rw[Array.getD_eq_getD_getElem?,Array.getElem?_eq_getElem hk]at h⊢;exact h
def t_{listed:Array Bool}:∀n,fC listed n=0->∀k,k <n->listed.getD k true=true:=by
 intro n h k u;unfold fC at h;rw[List.countP_eq_zero]at h;have:=h k (List.mem_range.2 u);simpa using this
end Go.Proofs.YtcgdbhlnkificaaGreatDoor
