/- The tree evaluator,10: new blocks,blocks written,blocks. No condition. -/
import Derived.Test.YtgbfedgghjcdcaaGreatDoorTA
import Derived.RangeFuncLeaves
import Derived.RangeFuncRecord
set_option linter.all false
namespace Go.Proofs.YtgbfedgghjcdcaaGreatDoor
open Go.RowKit
structure Tr (M:Nat->Prop) (fr:Fr) (L:Ls) (w:World) (fr':Fr) (L':Ls) (w':World) (ks:List Nat):Prop where
 size:w.heap.size<=w'.heap.size
 same:∀b,b <w.heap.size->MA M fr L b->MA M fr' L' b/\w'.heap[b]?=w.heap[b]?
 fB:∀i v,i∉ks->L i=some v->L' i=some v
section
variable {γ:Glob} {κ:Ctx} {M:Nat->Prop} {fr fr':Fr} {L L':Ls} {w w':World} {ks:List Nat}
def Tr.vr(h:Tr M fr L w fr' L' w' ks){x:AV}{v:Value}(hv:VR (MA M fr L) w x v):VR (MA M fr' L') w' x v:=VR.on h.size h.same hv
theorem Tr.sub(h:Tr M fr L w fr' L' w' ks){x:SV}{v:Value}(hv:SR (MA M fr L) L w x v):SR (MA M fr' L') L' w' (x.sub (cM ks)) v:=
 SR.sub _ h.size h.same (fun i j v y u=>by obtain⟨rfl,z⟩:=uD y;exact h.fB _ v z u) hv
def Tr.sr(h:Tr M fr L w fr' L' w' []){x:SV}{v:Value}(hv:SR (MA M fr L) L w x v):SR (MA M fr' L') L' w' x v:=SR.on h.size h.same (fun i v u=>h.fB i v (by simp) u) hv
theorem Tr.env(h:Tr M fr L w fr' L' w' ks){env:Env}{t:Nat}{v:Value}(hv:SR (MA M fr L) L w (env t) v):SR (MA M fr' L') L' w' (cF ks env t) v:=by
 unfold cF;split
 ·exact h.sr hv
 ·exact h.sub hv
def Tr.refl:Tr M fr L w fr L w ks:=⟨Nat.le_refl _,fun _ _ h=>⟨h,rfl⟩,fun _ _ _ h=>h⟩
theorem Tr.trans{u:Fr}{y:Ls}{D:World}(h:Tr M fr L w fr' L' w' ks)(k:Tr M fr' L' w' u y D ks):Tr M fr L w u y D ks:=
 ⟨Nat.le_trans h.size k.size,fun b z G=>⟨(k.same b (Nat.lt_of_lt_of_le z h.size) (h.same b z G).1).1,((k.same b (Nat.lt_of_lt_of_le z h.size) (h.same b z G).1).2).trans (h.same b z G).2⟩,fun i v I J=>k.fB i v I (h.fB i v I J)⟩
def Tr.AW{ks':List Nat}(h:Tr M fr L w fr' L' w' ks)(hk:∀i∈ks,i∈ks'):Tr M fr L w fr' L' w' ks':=⟨h.size,h.same,fun i v y u=>h.fB i v (fun h=>y (hk i h)) u⟩
def Tr.below(hb:Below w.heap.size w w'):Tr M fr L w fr L w' ks:=⟨hb.size,fun b u v=>⟨v,hb.block b u⟩,fun _ _ _ h=>h⟩
def A9(u:ar γ κ fr L w){n:Nat}(hn:fr.length=n):fO n L (fun j=>j)=L:=by
 funext j;unfold fO;split
 ·rfl
 ·cases h:L j with
  |none=>rfl
  |some v=>have:=u.lim j v h;omega
def ar.jw(y:ar γ κ fr L w)(l:List Nat):ar γ κ (freeze fr l) L w/\Tr κ.M fr L w (freeze fr l) L w []/\∀b,MA κ.M fr L b->MA κ.M (freeze fr l) L b:=by
 obtain⟨h1,h2,h3⟩:=y.pC (freeze fr l) (fun j=>j) some (fun j k _ _ h=>h) (fun i j v h I=>by
   cases h;exact⟨by rw[nj];exact y.lim _ v I,rfl⟩) (fun j J h=>by
   rw[lZ]at h
   cases z:fr[j]? with
   |none=>rw[z]at h;cases h
   |some u=>rw[z]at h;cases h;exact⟨u,rfl,BO u _⟩) (fun j v h=>by
   obtain⟨u,h1,_⟩:=y.hand j v h;exact⟨u,kY (bi l j) u,h1,by rw[lZ,h1];rfl,rfl,fun D=>by rw[DU]at D;exact D⟩)
 rw[A9 y (nj l fr).symm]at h1 h2;exact⟨h1,⟨Nat.le_refl _,fun b _ G=>⟨h2 b G,rfl⟩,fun _ _ _ h=>h⟩,h2⟩
theorem ar.trim(I:ar γ κ fr L w)(h:Nat)(hh:∀j v,κ.L j=some v->j <h):∃L',ar γ κ (trim h fr) L' w/\∀x v,SR (MA κ.M fr L) L w x v->SR (MA κ.M (trim h fr) L') L' w (x.sub (iV h)) v:=by
 unfold Go.Proofs.YtgbfedgghjcdcaaGreatDoor.trim;split
 ·rename_i U;rw[Nat.ble_eq]at U;exact⟨L,I,fun x v G=>SR.sub _ (Nat.le_refl _) (fun b _ O=>⟨O,rfl⟩) (fun i j v u J=>by obtain⟨rfl,_⟩:=yh u;exact J) G⟩
 ·have D:∀(j:Nat) (y:Lb),((fr.take h).map (Lb.sub (iV h)))[j]?=some y->j <h/\∃z,fr[j]?=some z/\y=z.sub (iV h):=fun j y u=>by
   rw[List.getElem?_map,List.getElem?_take]at u;split at u
   ·rename_i Q
    cases V:fr[j]? with
    |none=>rw[V]at u;cases u
    |some z=>rw[V]at u;cases u;exact⟨Q,z,rfl,rfl⟩
   ·cases u
  obtain⟨h1,h2,h3⟩:=I.pC ((fr.take h).map (Lb.sub (iV h))) (fun j=>j) (iV h) (fun j k _ _ h=>h) (fun i j v J G=>by
    obtain⟨rfl,J⟩:=yh J;exact⟨by rw[List.length_map,List.length_take];have:=I.lim _ v G;omega,rfl⟩) (fun j y u=>by
    obtain⟨_,z,h4,rfl⟩:=D j y u;exact⟨z,h4,kR _ _⟩) (fun j v u=>by
    obtain⟨z,h4,_⟩:=I.hand j v u;exact⟨z,z.sub (iV h),h4,by rw[List.getElem?_map,List.getElem?_take,if_pos (hh j v u),h4];rfl,rfl,fun Z=>by rw[Lb.r9]at Z;exact Z⟩)
  exact⟨_,h1,fun x v G=>SR.sub _ (Nat.le_refl _) (fun b _ O=>⟨h2 b O,rfl⟩) h3 G⟩
def b7(L:Ls)(n:Nat)(v:Value):Ls:=fun i=>if i=n then some v else L i
def bP{n:Nat}{v:Value}:b7 L n v n=some v:=if_pos rfl
def ef{n i:Nat}{v:Value}(h:i≠n):b7 L n v i=L i:=if_neg h
def ar.F9(y:ar γ κ fr L w)(hb:Below w.heap.size w w')(J:Lb)(v:Value)(hv:∀b,Bk v b->w.heap.size<=b/\b <w'.heap.size)
  (Z:Tr κ.M fr L w (fr++[J]) (b7 L fr.length v) w' []->h_ (MA κ.M (fr++[J]) (b7 L fr.length v)) (b7 L fr.length v) w' fr.length J):ar γ κ (fr++[J]) (b7 L fr.length v) w'/\Tr κ.M fr L w (fr++[J]) (b7 L fr.length v) w' []:=by
 have ad:∀i u,L i=some u->i≠fr.length:=fun i u z=>by have:=y.lim i u z;omega
 have D:∀i u,L i=some u->b7 L fr.length v i=some u:=fun i u z=>by rw[ef (ad i u z)];exact z
 have af:∀b,b <w.heap.size->MA κ.M fr L b->MA κ.M (fr++[J]) (b7 L fr.length v) b:=fun b I hm=>⟨hm.1,fun⟨i,u,G,h1,h2,h3,h4⟩=>by
  by_cases z:i=fr.length
  ·subst z;rw[bP]at h1;cases h1;have:=(hv b h2).1;omega
  ·rw[ef z]at h1;rw[List.getElem?_append_left (y.lim i u h1)]at h3;exact hm.2 ⟨i,u,G,h1,h2,h3,h4⟩⟩
 have O:Tr κ.M fr L w (fr++[J]) (b7 L fr.length v) w' []:=⟨hb.size,fun b I hm=>⟨af b I hm,hb.block b I⟩,fun i u _ z=>D i u z⟩;have ak:(fr++[J]).length=fr.length+1:=by simp
 refine⟨⟨γ.stays _ _ y.bN fun k Q=>hb.block k (Nat.lt_of_lt_of_le Q (Nat.le_trans y.gn y.size)),y.gn,y.gx,y.fresh,hb.os.trans y.os,hb.tape.trans y.tape,hb.output.trans y.output,Nat.le_trans y.size hb.size,fun k Q hx=>(hb.block k (Nat.lt_of_lt_of_le Q y.size)).trans (y.kept k Q hx),fun i u h=>?_,fun i u b G h1 h2 h3=>?_,fun i j u u' b h1 h2 h3 h4=>?_,fun j u h=>?_,fun i G h=>?_⟩,O⟩
 ·by_cases z:i=fr.length
  ·omega
  ·rw[ef z]at h;have:=y.lim i u h;omega
 ·by_cases z:i=fr.length
  ·subst z;rw[bP]at h1;cases h1;obtain⟨U,a2⟩:=hv b h2;exact⟨a2,y.fresh b (Nat.le_trans y.size U),.inl (Nat.le_trans y.size U),fun _=>.inl (Nat.le_trans y.size U)⟩
  ·rw[ef z]at h1;rw[List.getElem?_append_left (y.lim i u h1)]at h3;obtain⟨U,a2,a0,a3⟩:=y.new i u b G h1 h2 h3;exact⟨Nat.lt_of_lt_of_le U hb.size,a2,a0,a3⟩
 ·have I:∀i u,i≠fr.length->b7 L fr.length v i=some u->Bk u b->b <w.heap.size:=fun i u z h1 h2=>by
   rw[ef z]at h1;have ag:=y.lim i u h1;exact(y.new i u b fr[i] h1 h2 (List.getElem?_eq_getElem ag)).1
  by_cases z:i=fr.length <;>by_cases V:j=fr.length
  ·omega
  ·subst z;rw[bP]at h1;cases h1;have:=I j u' V h2 h4;have:=(hv b h3).1;omega
  ·subst V;rw[bP]at h2;cases h2;have:=I i u z h1 h3;have:=(hv b h4).1;omega
  ·rw[ef z]at h1;rw[ef V]at h2;exact y.bW i j u u' b h1 h2 h3 h4
 ·obtain⟨G,h1,h2⟩:=y.hand j u h;exact⟨G,by rw[List.getElem?_append_left (aC h1)];exact h1,fun ht=>D j u (h2 ht)⟩
 ·by_cases z:i <fr.length
  ·rw[List.getElem?_append_left z]at h;have h1:=y.blk i G h;refine l9 (σ:=some) hb.size O.same (fun i j u V hu=>by cases V;exact D i u hu) (D i) (fun u k hu Q=>hb.block k (y.new i u k G hu Q h).1) (fun T sz u n us _ hr=>hr.below hb) (wx G) h1
  ·have:i=fr.length:=by have:=aC h;omega
   subst this;rw[List.getElem?_append_right (Nat.le_refl _),Nat.sub_self]at h;cases h;exact Z O
def ar.push(z:ar γ κ fr L w)(hb:Below w.heap.size w w')(u:Lb)(v:Value)(hv:∀b,bI v=some b->w.heap.size<=b/\b <w'.heap.size)
  (y:Tr κ.M fr L w (fr++[u]) (b7 L fr.length v) w' []->h_ (MA κ.M (fr++[u]) (b7 L fr.length v)) (b7 L fr.length v) w' fr.length u)(hpv:de v=true:=by rfl):ar γ κ (fr++[u]) (b7 L fr.length v) w'/\Tr κ.M fr L w (fr++[u]) (b7 L fr.length v) w' []:=
 z.F9 hb u v (fun b h=>hv b (h.of hpv)) y
def ar.wM(y:ar γ κ fr L w){i:Nat}{v v':Value}{lb lb':Lb}(hi:fr[i]?=some lb)(aN:lb.ro=false)(hL:L i=some v)(aB:w'.os=w.os)(aE:w'.tape=w.tape)(aJ:w'.output=w.output)(ak:w.heap.size<=w'.heap.size)(V:∀k,k <w.heap.size->¬Bk v k->w'.heap[k]?=w.heap[k]?)(U:∀b,Bk v' b->Bk v b\/w.heap.size<=b)
  (hlt:∀b,Bk v' b->b <w'.heap.size)(hks:v'=v\/(i∈ks/\lb'.tch=true))(aq:lb'.tch=false->lb.tch=false)
  (ao:Tr κ.M fr L w ((dw ks fr).set i lb') (b7 L i v') w' ks->h_ (MA κ.M ((dw ks fr).set i lb') (b7 L i v')) (b7 L i v') w' i lb'):
  ar γ κ ((dw ks fr).set i lb') (b7 L i v') w'/\Tr κ.M fr L w ((dw ks fr).set i lb') (b7 L i v') w' ks:=by
 have an:i <fr.length:=aC hi;have ag:((dw ks fr).set i lb')[i]?=some lb':=List.getElem?_set_self (by rw[k8];exact an);have G:∀k,k≠i->((dw ks fr).set i lb')[k]?=(fr[k]?).map (Lb.sub (cM ks)):=fun k z=>by rw[List.getElem?_set_ne (Ne.symm z),qZ]
 have af:∀b,Bk v b->Own fr L b:=fun b I=>⟨i,v,lb,hL,I,hi,aN⟩
 have Z:∀k u,k∉ks->L k=some u->b7 L i v' k=some u:=fun k u z Q=>by
  by_cases e:k=i
  ·subst e;rw[hL]at Q;cases Q;rcases hks with h|h
   ·rw[bP,h]
   ·exact absurd h.1 z
  ·rw[ef e];exact Q
 have aw:∀b,b <w.heap.size->MA κ.M fr L b->MA κ.M ((dw ks fr).set i lb') (b7 L i v') b:=fun b I O=>⟨O.1,fun⟨k,u,al,h1,h2,h3,h4⟩=>by
  by_cases e:k=i
  ·subst e;rw[bP]at h1;cases h1;rcases U b h2 with h|h
   ·exact O.2 (af b h)
   ·omega
  ·rw[ef e]at h1;rw[G k e]at h3
   cases J:fr[k]? with
   |none=>rw[J]at h3;cases h3
   |some D=>rw[J]at h3;cases h3;rw[Lb.lu]at h4;exact O.2 ⟨k,u,D,h1,h2,J,h4⟩⟩
 have aM:∀b,MA κ.M fr L b->¬Bk v b:=fun b O e=>O.2 (af b e);have am:Tr κ.M fr L w ((dw ks fr).set i lb') (b7 L i v') w' ks:=⟨ak,fun b I O=>⟨aw b I O,V b I (aM b O)⟩,Z⟩;have ad:∀k u b,k≠i->L k=some u->Bk u b->¬Bk v b:=fun k u b z h1 h2 e=>z (y.bW k i u v b h1 hL h2 e);have hO:=fun b I=>y.own (af b I);refine⟨⟨γ.stays _ _ y.bN fun k z=>V k (Nat.lt_of_lt_of_le z (Nat.le_trans y.gn y.size)) fun e=>?_,y.gn,y.gx,y.fresh,aB.trans y.os,aE.trans y.tape,aJ.trans y.output,Nat.le_trans y.size ak,fun k z hx=>?_,fun k u h=>?_,fun k u b al h1 h2 h3=>?_,fun k m u u' b h1 h2 h3 h4=>?_,fun j u h=>?_,fun k al h=>?_⟩,am⟩
 ·obtain⟨_,_,h⟩:=hO k e;rcases h with h|h
  ·have:=y.gn;omega
  ·have:=(y.gx k h).1;omega
 ·rw[V k (Nat.lt_of_lt_of_le z y.size) fun e=>?_]
  ·exact y.kept k z hx
  ·obtain⟨_,_,h⟩:=hO k e;rcases h with h|h
   ·omega
   ·exact hx h
 ·rw[List.length_set,k8];by_cases e:k=i
  ·subst e;exact an
  ·rw[ef e]at h;exact y.lim k u h
 ·by_cases e:k=i
  ·subst e;rw[bP]at h1;cases h1;refine⟨hlt b h2,?_⟩;rcases U b h2 with h|h
   ·obtain⟨_,a2,a3⟩:=hO b h;obtain⟨_,_,a0,_⟩:=y.new k v b lb hL h hi;exact⟨a2,a0,fun _=>a3⟩
   ·have:=Nat.le_trans y.size h;exact⟨y.fresh _ this,.inl this,fun _=>.inl this⟩
  ·rw[ef e]at h1;rw[G k e]at h3
   cases J:fr[k]? with
   |none=>rw[J]at h3;cases h3
   |some D=>
    rw[J]at h3;cases h3;obtain⟨a1,a2,a0,a3⟩:=y.new k u b D h1 h2 J;exact⟨Nat.lt_of_lt_of_le a1 ak,a2,a0,fun hr=>a3 (by rw[Lb.lu]at hr;exact hr)⟩
 ·have au:∀k u,k≠i->L k=some u->Bk u b->Bk v' b->False:=fun k u z h1 h2 h3=>by
   rcases U b h3 with h|h
   ·exact ad k u b z h1 h2 h
   ·have aL:=y.lim k u h1;have:=(y.new k u _ fr[k] h1 h2 (List.getElem?_eq_getElem aL)).1;omega
  by_cases z:k=i <;>by_cases O:m=i
  ·omega
  ·subst z;rw[bP]at h1;cases h1;rw[ef O]at h2;exact(au m u' O h2 h4 h3).elim
  ·subst O;rw[bP]at h2;cases h2;rw[ef z]at h1;exact(au k u z h1 h3 h4).elim
  ·rw[ef z]at h1;rw[ef O]at h2;exact y.bW k m u u' b h1 h2 h3 h4
 ·obtain⟨al,h1,h2⟩:=y.hand j u h;by_cases e:j=i
  ·subst e;rw[hi]at h1;cases h1;refine⟨lb',ag,fun ht=>?_⟩;have:=h2 (aq ht);rw[hL]at this;cases this;rcases hks with h|h
   ·rw[bP,h]
   ·rw[h.2]at ht;cases ht
  ·exact⟨al.sub (cM ks),by rw[G j e,h1];rfl,fun ht=>by rw[Lb.r9]at ht;rw[ef e];exact h2 ht⟩
 ·by_cases e:k=i
  ·subst e;rw[ag]at h;cases h;exact ao am
  ·rw[G k e]at h
   cases J:fr[k]? with
   |none=>rw[J]at h;cases h
   |some D=>
    rw[J]at h;cases h;refine l9 (i:=k) (σ:=cM ks) ak am.same (fun p q u hq Q=>by obtain⟨rfl,hq⟩:=uD hq;exact Z _ u hq Q) (fun u Q=>by rw[ef e];exact Q) (fun u b Q I=>V b (y.new k u b D Q I J).1 (ad k u b e Q I)) (fun T sz u n us Q hr=>hr.same fun b I=>V b (y.new k u b D Q (.one I) J).1 (ad k u b e Q (.one I))) (kR _ _) (y.blk k D J)
def ar.jZ(J:ar γ κ fr L w){i:Nat}{v v':Value}{I lb':Lb}(hi:fr[i]?=some I)(G:I.ro=false)(O:L i=some v)(hg:w.grownBy w' (bI v))(y:bI v'=bI v\/bI v'=some w.heap.size\/bI v'=none)
  (hlt:∀b,bI v'=some b->b <w'.heap.size)(hks:v'=v\/(i∈ks/\lb'.tch=true))(D:lb'.tch=false->I.tch=false)
  (z:Tr κ.M fr L w ((dw ks fr).set i lb') (b7 L i v') w' ks->h_ (MA κ.M ((dw ks fr).set i lb') (b7 L i v')) (b7 L i v') w' i lb')(hpv:de v'=true:=by rfl):
  ar γ κ ((dw ks fr).set i lb') (b7 L i v') w'/\Tr κ.M fr L w ((dw ks fr).set i lb') (b7 L i v') w' ks:=
 J.wM hi G O hg.os hg.tape hg.output hg.size (fun k Q U=>hg.block k Q fun e=>U (.one e.symm)) (fun b u=>by
  have u:=u.of hpv;rcases y with h|h|h
  ·exact .inl (.one (h ▸ u))
  ·rw[h]at u;cases u;exact .inr (Nat.le_refl _)
  ·rw[h]at u;cases u) (fun b u=>hlt b (u.of hpv)) hks D z
end
section
variable {P:Program} {γ:Glob} {κ:Ctx} {fr:Fr} {L:Ls} {w:World} {A:Nat->Prop}
def rL(hC:ar γ κ fr L w)(hA:∀b,MA κ.M fr L b->A b){i sz:Nat}{ro tch:Bool}{es:List (List AV)}{v:Value}(hb:fr[i]?=some (.row ro tch sz es))(hL:L i=some v)(J:∀b,bI v=some b->A b):VR A w (.arr es) v:=by
 obtain⟨T,us,y,z,_,Q,hr⟩:=dO hC hb hL;rcases y with⟨I,_,a,rfl⟩|y
 ·rw[List.eq_nil_of_length_eq_zero I];exact .bj _ _
 ·rcases y.2 with⟨rfl,I⟩|⟨g,cap,ad,rfl,_,hg,G,af,ag,ak⟩
  ·rw[List.eq_nil_of_length_eq_zero I];exact .bj _ _
  ·rcases es with _|⟨e0,et⟩
   ·exact .bj _ _
   ·have O:∃c,cap=c+1:=⟨cap - 1,by simp at G;omega⟩;obtain⟨c,rfl⟩:=O;have U:g <w.heap.size:=(Array.getElem?_eq_some_iff.1 hg).1;refine .arr g 0 (c+1) sz _ (fun k j=>us.getD (k*sz+j) undef) (by simp) z G U (J g rfl) Q (fun k j V hj=>?_) (fun k j cs x V hj=>?_)
    ·have D:k*sz+j <us.length:=by
      rw[y.1];have:(k+1)*sz<=(e0::et).length*sz:=Nat.mul_le_mul_right _ V;rw[Nat.add_mul]at this;omega
     have:=uW y (List.getElem?_eq_getElem D);rw[List.getD_eq_getElem?_getD,List.getElem?_eq_getElem D,Nat.zero_add];exact this
    ·obtain⟨u,hu,Z⟩:=hr k j cs x V hj;rw[List.getD_eq_getElem?_getD,hu];exact VR.on (Nat.le_refl _) (fun b _ hb=>⟨hA b hb,rfl⟩) Z
def FJ{sz:Nat}{es:List (List AV)}(h:∀(k:Nat) (cs:List AV),es[k]?=some cs->cs.length=sz):mh sz es=true:=by
 cases es with
 |nil=>rfl
 |cons e es=>simp[mh,h 0 e rfl]
def Fg(U:ar γ κ fr L w)(hA:∀b,MA κ.M fr L b->A b){i sz a n:Nat}{es:List (List AV)}{v:Value}(h:eZ fr i sz a n=some es)(hs:SR (MA κ.M fr L) L w (.lv i sz a n) v)(hi:∀u b,L i=some u->Bk u b->A b):VR A w (.arr es) v:=by
 obtain⟨ro,ad,D,V,h1,rfl⟩:=rc h;obtain⟨b,m,c,G,rfl⟩:=jD hs;have O:=rL U hA V G fun b I=>hi _ b G (.one I);rcases Nat.eq_zero_or_pos n with Q|Q
 ·subst Q;rw[List.take_zero];exact .bj _ _
 ·obtain⟨_,_,_,_,⟨q',Z,e⟩,J,_⟩:=dO U V G;cases e
  have y:D.length<=c:=by
   generalize hq:Value.slice (some ⟨b,0,none⟩) D.length c=z at O
   cases O with
   |bj=>simp at h1;omega
   |arr b o Z sz' _ us hne hlen y=>cases hq;exact y
  have:=ws (l:=a) (h:=a+n) O (by omega) h1 (FJ J);rw[if_neg (by omega),List.drop_take,Nat.add_sub_cancel_left]at this;simpa[addr_add]using this
theorem lx(hC:ar γ κ fr L w)(hA:∀b,MA κ.M fr L b->A b):∀n:Nat,
  (∀(s:SV) (x:AV) (v:Value),fJ fr n s=some x->(∀i∈kG fr n s,∀u b,L i=some u->Bk u b->A b)->SR (MA κ.M fr L) L w s v->VR A w x v)/\
  (∀(cs:List SV) (xs:List AV),jR fr n cs=some xs->(∀i∈lg fr n cs,∀u b,L i=some u->Bk u b->A b)->cs.length=xs.length/\∀(j:Nat) (s:SV) (x:AV) (v:Value),cs[j]?=some s->xs[j]?=some x->SR (MA κ.M fr L) L w s v->VR A w x v)
 |0=>⟨(fun s x v h=>by unfold fJ at h;cases h),(fun cs xs h=>by unfold jR at h;cases h)⟩
 |n+1=>by
  obtain⟨al,U⟩:=lx hC hA n;have I:∀{x:AV} {v:Value},VR (MA κ.M fr L) w x v->VR A w x v:=fun h=>VR.on (Nat.le_refl _) (fun b _ O=>⟨hA b O,rfl⟩) h;refine⟨fun s x v h D hs=>?_,fun cs xs h D=>?_⟩
  ·unfold fJ at h;unfold kG at D;split at h
   ·cases h;cases hs with|t _ _ h=>exact I h
   ·cases h;cases hs;exact .bj _ _
   ·cases h;exact I (eB hs (.inr (.inl rfl)))
   ·cases h;exact I (eB hs (.inr (.inr (.inl rfl))))
   ·rename_i i;split at h
    ·rename_i ro am sz es O;cases h;obtain⟨J,_⟩:=iu hs;exact rL hC hA O J fun b af=>D i (by simp) v b J (.one af)
    ·cases h
   ·split at h
    ·rename_i es he;cases h;exact Fg hC hA he hs fun u b J af=>D _ (by simp) u b J af
    ·cases h
   ·rename_i i j;split at h
    ·rename_i ro T cs O;split at h
     ·rename_i y ys V;cases h;obtain⟨g,J,rfl⟩:=kj hs;simp only[O]at D;obtain⟨h1,h2⟩:=U _ _ V fun k Q=>D k (by simp[Q]);obtain⟨g',us,e1,e2,e3,e4⟩:=hC.box i ro T cs O;rw[J]at e1;cases e1
      have ak:∀k,k <(y::ys).length->us[j+k]?=some (us.getD (j+k) undef):=fun k Q=>by
       have:j+k <us.size:=by rw[e3];rw[List.length_drop]at h1;omega
       rw[Array.getD_eq_getD_getElem?,Array.getElem?_eq_getElem this];rfl
      refine .tp g j _ (fun k=>us.getD (j+k) undef) (by simp) (Array.getElem?_eq_some_iff.1 e2).1 (D i (by simp) _ g J (.one rfl)) (fun k Q=>?_) (fun k x G=>?_)
      ·simp only[World.cell?,e2];exact ak k Q
      ·have Q:=aC G;obtain⟨s,z⟩:=av (xs:=cs.drop j) (k:=k) (by rw[h1];exact Q);refine h2 k s x _ z G ?_;rw[List.getElem?_drop]at z;exact e4 _ s _ z (ak k Q)
     ·cases h
    ·cases h
   ·rename_i cs;split at h
    ·rename_i xs V;cases h
     cases hs with
     |agg _ us hl hr=>
      obtain⟨h1,h2⟩:=U _ _ V D;refine .agg _ _ (by rw[hl,h1]) fun j x u G Z=>?_;obtain⟨s,z⟩:=av (xs:=cs) (k:=j) (by rw[h1];exact aC G);exact h2 j s x u z G (hr j s u z Z)
    ·cases h
   ·rename_i cs;split at h
    ·rename_i xs V;cases h
     cases hs with
     |aL _ us hl hr=>
      obtain⟨h1,h2⟩:=U _ _ V D;refine .aL _ _ (by rw[hl,h1]) fun j x u G Z=>?_;obtain⟨s,z⟩:=av (xs:=cs) (k:=j) (by rw[h1];exact aC G);exact h2 j s x u z G (hr j s u z Z)
    ·cases h
   ·rename_i f nf cs;split at h
    ·rename_i xs V;cases h
     cases hs with
     |fn _ _ fs us hl hr=>
      obtain⟨h1,h2⟩:=U _ _ V D;refine .fn _ _ _ _ (by rw[hl,h1]) fun j x u G Z=>?_;obtain⟨s,z⟩:=av (xs:=cs) (k:=j) (by rw[h1];exact aC G);exact h2 j s x u z G (hr j s u z Z)
    ·cases h
   ·rename_i i;split at h
    ·rename_i ro ks vs O;split at h
     ·rename_i xs V;cases h
      cases hs with
      |lm _ r J=>
       simp only[O]at D;obtain⟨h1,h2⟩:=U _ _ V fun k Q=>D k (by simp[Q]);obtain⟨r',ag,ad,e1,e2,e3,e4,e5,e6,_⟩:=hC.blk i _ O;rw[J]at e1;cases e1;refine .mp r ks xs ag ad (Array.getElem?_eq_some_iff.1 e2).1 (D i (by simp) _ r J (.one rfl)) e2 e3 (by rw[e4,h1]) (fun j x u G Z=>I (e5 j x u G Z)) fun j x u G Z=>?_;obtain⟨s,z⟩:=av (xs:=vs) (k:=j) (by rw[h1];exact aC G);exact h2 j s x _ z G (e6 j s u z Z)
     ·cases h
    ·cases h
   ·rename_i i p;split at h
    ·rename_i ro y O
     cases hs with
     |lo _ _ t v J hv hp=>
      obtain⟨v',t',e1,e2⟩:=hC.blk i _ O;rw[J]at e1;cases e1;obtain⟨v2,t2,e3,e4,e5⟩:=e2.at_ h;obtain rfl:=e4.hd e3 hv;exact e4.vr fun b O=>D i (by simp) _ b J (e5 b O)
    ·cases h
   ·cases h
  ·cases cs with
   |nil=>unfold jR at h;cases h;exact⟨rfl,fun j s x v hs=>by simp at hs⟩
   |cons c cs=>
    unfold jR at h;unfold lg at D;split at h
    ·rename_i x ys h1 h2;cases h;obtain⟨a1,a2⟩:=U _ _ h2 fun k Q=>D k (by simp[Q]);refine⟨by simp[a1],fun j s y v hs hy hv=>?_⟩
     cases j with
     |zero=>cases hs;cases hy;exact al _ _ v h1 (fun k Q=>D k (by simp[Q])) hv
     |succ j=>exact a2 j s y v (by simpa using hs) (by simpa using hy) hv
    ·cases h
theorem mr(I:ar γ κ fr L w)(G:∀b,MA κ.M fr L b->A b):∀(cs:List SV) (xs:List AV),bZ fr cs=some xs->(∀i∈bg fr cs,∀u b,L i=some u->Bk u b->A b)->cs.length=xs.length/\∀(j:Nat) (s:SV) (x:AV) (v:Value),cs[j]?=some s->xs[j]?=some x->SR (MA κ.M fr L) L w s v->VR A w x v
 |[],xs,h,_=>by unfold bZ at h;cases h;exact⟨rfl,fun j s x v hs=>by simp at hs⟩
 |c::cs,xs,h,z=>by
  unfold bZ at h;unfold bg at z;split at h
  ·cases h
  ·rename_i x h1;split at h
   ·cases h
   ·rename_i V h2;cases h;obtain⟨Q,U⟩:=mr I G cs V h2 fun k D=>z k (by simp[D]);refine⟨by simp[Q],fun j s y v hs O J=>?_⟩
    cases j with
    |zero=>cases hs;cases O;exact(lx I G deep).1 _ _ v h1 (fun k D=>z k (by simp[D])) J
    |succ j=>exact U j s y v (by simpa using hs) (by simpa using O) J
def kZ(z:ar γ κ fr L w){l:List Nat}:∀i∈l,∀u b,L i=some u->Bk u b->MA κ.M (freeze fr l) L b:=fun i Q u b I J=>by
 have D:=z.lim i u I;refine⟨(z.new i u b fr[i] I J (List.getElem?_eq_getElem D)).2.1,fun⟨j,v,U,h1,h2,h3,h4⟩=>?_⟩;have G:=z.bW j i v u b h1 I h2 J;subst G;rw[lZ,j8.2 Q]at h3
 cases O:fr[j]? with
 |none=>rw[O]at h3;cases h3
 |some y=>
  rw[O]at h3;cases h3;have:(kY true y).ro=true:=Hh y;rw[this]at h4;cases h4
def cj(P:Program)(γ:Glob)(env:Env)(fr:Fr)(o:Oper)(x:SV)(fr':Fr)(ks:List Nat):Prop:=
 ∀(κ:Ctx) (L:Ls) (a:Act) (w:World),ar γ κ fr L w->(∀y∈o.op.operands,SR (MA κ.M fr L) L w (cE env y) (a.eval y))->cr P o a w fun v w'=>∃L',Tr κ.M fr L w fr' L' w' ks/\ar γ κ fr' L' w'/\SR (MA κ.M fr' L') L' w' x v
def p8.ok{env:Env}{o:Oper}{x:SV}(h:p8 P γ fr env o x):cj P γ env fr o x fr []:=fun κ L a w y u=>(h κ L a w y u).mono fun v w' ⟨z,D⟩=>⟨L,Tr.below z,y.later z,D⟩
def xZ{L':Ls}{w':World}{i g:Nat}{T:TypeId}{us:Array Value}{cs:List SV}{ro:Bool}(v:L' i=some (.pointer (some ⟨g,0,none⟩)))(hh:w'.heap[g]?=some (.cells us T (0,0)))(hl:us.size=cs.length)(hr:∀(j:Nat) (x:SV) (u:Value),cs[j]?=some x->us[j]?=some u->SR A L' w' x u):h_ A L' w' i (.box ro T cs):=⟨g,us,v,hh,hl,hr⟩
def yC{env:Env}{o:Oper}{T:TypeId}{cs:List SV}(h:∀(κ:Ctx) (L:Ls) (a:Act) (w:World),ar γ κ fr L w->(∀y∈o.op.operands,SR (MA κ.M fr L) L w (rd env y) (a.eval y))->∃us:Array Value,(execOp a.eval o).run P w=.ok (.value (.pointer (some ⟨w.heap.size,0,none⟩))) (w.alloc (.cells us T))/\us.size=cs.length/\∀(j:Nat) (x:SV) (u:Value),cs[j]?=some x->us[j]?=some u->SR (MA κ.M fr L) L w x u):
  cj P γ env fr o (.lp fr.length 0) (fr++[.box false T cs]) []:=fun κ L a w I G=>by
 obtain⟨us,h1,h2,h3⟩:=h κ L a w I fun y U=>bG (G y U);have D:Below w.heap.size w (w.alloc (.cells us T)):=(Below.refl _ _).alloc (Nat.le_refl _) _;obtain⟨v,z⟩:=I.push D (.box false T cs) (.pointer (some ⟨w.heap.size,0,none⟩)) (fun b J=>by cases J;exact⟨Nat.le_refl _,by simp⟩) fun z=>xZ bP (by show(w.heap.push (.cells us T))[w.heap.size]?=_;exact Array.getElem?_push_size) h2 fun j x u Q O=>z.sr (h3 j x u Q O);exact .gb h1 ⟨_,z,v,.lp _ 0 _ bP⟩
def Bn{env:Env}{dst:Option Tmp}{ty:TypeId}{pos:String}{after:Array Edge}{g:Option (Nat×Bool)}{T:TypeId}{zs:List SV}(hz:kK P T=some zs):cj P γ env fr ⟨dst,.alloc T,ty,pos,after,g⟩ (.lp fr.length 0) (fr++[.box false T zs]) []:=yC fun κ L a w J G=>by
 unfold kK at hz
 cases y:P.info? T with
 |none=>rw[y]at hz;cases hz
 |some i=>
  rw[y,Option.bind_some]at hz
  cases v:i.zero with
  |none=>rw[v]at hz;cases hz
  |some z=>
   rw[v]at hz;cases hz;refine⟨z.cells,by simp[execOp,Instr.alloc,Sem.run_bind,rR y v,newVar,newRow,newObj,pure,Sem.run],by simp,fun j x u D I=>?_⟩;rw[List.getElem?_map,Array.getElem?_toList,I]at D;cases D;exact gA u
def BR{env:Env}{dst:Option Tmp}{ty:TypeId}{pos:String}{after:Array Edge}{g:Option (Nat×Bool)}{T:TypeId}{y:Operand}(h:(bo (rd env y)).all cQ=true):cj P γ env fr ⟨dst,.box T y,ty,pos,after,g⟩ (.lp fr.length 0) (fr++[.box false T (bo (rd env y))]) []:=yC fun κ L a w D u=>by
 obtain⟨v,z⟩:=mU (u y (by simp[Op.operands])) (List.all_eq_true.1 h);exact⟨(a.eval y).cells,by simp[execOp,Instr.box,Sem.run_bind,newVar,newRow,newObj,pure,Sem.run],v.symm,z⟩
end
def dE(w:World)(b:Nat)(us:Array Value)(T:TypeId):World:={w with heap:=w.heap.setIfInBounds b (.cells us T (0,0))}
def pJ{w:World}{b:Nat}{us:Array Value}{T:TypeId}(h:b <w.heap.size):(dE w b us T).heap[b]?=some (.cells us T (0,0)):=by
 unfold dE;exact Array.getElem?_setIfInBounds_self_of_lt h
def Ac{w:World}{b k:Nat}{us:Array Value}{T:TypeId}(h:k≠b):(dE w b us T).heap[k]?=w.heap[k]?:=by
 unfold dE;exact Array.getElem?_setIfInBounds_ne (Ne.symm h)
def vB{w:World}{b:Nat}{us:Array Value}{T:TypeId}:(dE w b us T).heap.size=w.heap.size:=by simp[dE]
def rT(w:World)(b:Nat)(us:Array Value)(T:TypeId):w.grownBy (dE w b us T) (some b):=⟨rfl,rfl,rfl,by rw[vB];exact Nat.le_refl _,fun k _ u=>Ac fun e=>u (by rw[e])⟩
def Hf{w:World}{b:Nat}{us vs:Array Value}{T:TypeId}:dE (dE w b us T) b vs T=dE w b vs T:=by
 unfold dE;simp[Array.setIfInBounds_setIfInBounds]
def Hg{w:World}{b o:Nat}{us:Array Value}{T:TypeId}(h:w.heap[b]?=some (.cells us T (0,0)))(v:Value):w.setCell ⟨b,o,none⟩ v=dE w b (us.setIfInBounds o v) T:=by
 unfold World.setCell dE;congr 1;apply Array.ext_getElem?;intro k;rw[Array.getElem?_modify];by_cases u:b=k
 ·subst u;have y:=(Array.getElem?_eq_some_iff.1 h).1;rw[if_pos rfl,Array.getElem?_setIfInBounds_self_of_lt y,h];rfl
 ·rw[if_neg u,Array.getElem?_setIfInBounds_ne u]
def run_store{P:Program}{w:World}{b o:Nat}{us:Array Value}{T:TypeId}{v:Value}(h:w.heap[b]?=some (.cells us T (0,0)))(ho:o <us.size)(hv:de v=true):(store ⟨b,o,none⟩ v).run P w=.ok () (dE w b (us.setIfInBounds o v) T):=by
 have u:w.cell? ⟨b,o,none⟩=some us[o]:=by simp[World.cell?,h,ho]
 have y:w.frozen? ⟨b,o,none⟩=false:=by simp[World.frozen?,h]
 rw[<- Hg h];unfold store;cases v <;>first|(simp[de]at hv;done)|(simp[Sem.run,u,y])
theorem pH{P:Program}{b:Nat}{T:TypeId}(j:Nat):∀(vs:List Value) (i:Nat) (w:World) (us:Array Value),w.heap[b]?=some (.cells us T (0,0))->j+i+vs.length<=us.size->(∀v∈vs,de v=true)->(storeCells ⟨b,j,none⟩ vs i).run P w=.ok () (dE w b (e8 us (j+i) vs) T)
 |[],i,w,us,h,_,_=>by
  have:dE w b us T=w:=by
   unfold dE
   have:w.heap.setIfInBounds b (.cells us T (0,0))=w.heap:=by
    apply Array.ext_getElem?;intro k;by_cases z:b=k
    ·subst z;rw[Array.getElem?_setIfInBounds_self_of_lt (Array.getElem?_eq_some_iff.1 h).1,h]
    ·rw[Array.getElem?_setIfInBounds_ne z]
   rw[this]
  simp[storeCells,e8,this,pure,Sem.run]
 |v::vs,i,w,us,h,G,D=>by
  simp only[List.length_cons]at G;have h1:=run_store (P:=P) (o:=j+i) (v:=v) h (by omega) (D v (by simp));have y:=(Array.getElem?_eq_some_iff.1 h).1;have J:=pH (P:=P) (b:=b) (T:=T) j vs (i+1) (dE w b (us.setIfInBounds (j+i) v) T) (us.setIfInBounds (j+i) v) (pJ y) (by simp;omega) fun u I=>D u (by simp[I]);unfold storeCells;simp only[Sem.run_bind,addr_add,h1,Result.andThen_ok,J,Hf];rfl
def sV{L:Ls}{i:Nat}{v:Value}(h:L i=some v):b7 L i v=L:=by
 funext j;unfold b7;split
 ·subst_vars;exact h.symm
 ·rfl
def dM(us:List Value)(o:Nat):List Value->List Value
 |[]=>us
 |v::u=>dM (us.set o v) (o+1) u
theorem ze:∀(vs:List Value) (us:List Value) (o:Nat),(dM us o vs).length=us.length
 |[],_,_=>rfl
 |v::vs,us,o=>by rw[dM,ze vs];simp
theorem u2:∀(vs:List Value) (us:Array Value) (o:Nat),(e8 us o vs).toList=dM us.toList o vs
 |[],_,_=>rfl
 |v::vs,us,o=>by rw[e8,dM,u2 vs];simp
theorem u5:∀(vs:List Value) (us:List Value) (o n:Nat),o+vs.length<=n->(dM us o vs).take n=dM (us.take n) o vs
 |[],us,o,n,_=>rfl
 |v::vs,us,o,n,h=>by
  simp only[List.length_cons]at h;rw[dM,dM,u5 vs _ _ _ (by omega),List.take_set]
def uX{w:World}{T:TypeId}{sz b n c q:Nat}{us vs:List Value}(h:w.ownsRow 0 T sz (.slice (some ⟨b,0,none⟩) n c) n us)(hq:q+vs.length<=us.length)(hv:∀v∈vs,de v=true)(P:Program):
  ∃w',(storeCells ⟨b,q,none⟩ vs).run P w=.ok () w'/\w'.ownsRow 0 T sz (.slice (some ⟨b,0,none⟩) n c) n (dM us q vs)/\w.grownBy w' (some b):=by
 rcases h.2 with⟨e,_⟩|⟨g,cap,u,e,O,I,z,D,y,G⟩
 ·cases e
 ·cases e;have U:=h.1;have Q:n*sz<=u.size:=by rw[y];exact Nat.mul_le_mul_right _ z
  have J:=pH (P:=P) (b:=b) (T:=T) q vs 0 w u I (by omega) hv;rw[Nat.add_zero]at J;refine⟨_,J,⟨by rw[ze];exact h.1,.inr ⟨b,c,e8 u q vs,rfl,O,pJ (Array.getElem?_eq_some_iff.1 I).1,z,D,by rw[pA];exact y,?_⟩⟩,rT _ _ _ _⟩;rw[u2,u5 _ _ _ _ (by omega),G]
def bA(A:Nat->Prop)(w:World)(sz:Nat)(es:List (List AV))(us:List Value):Prop:=(∀(k:Nat) (v:List AV),es[k]?=some v->v.length=sz)/\∀(k j:Nat) (v:List AV) (x:AV),es[k]?=some v->v[j]?=some x->∃u,us[k*sz+j]?=some u/\VR A w x u
theorem bA.set{A:Nat->Prop}{w:World}{sz k j:Nat}{es:List (List AV)}{us:List Value}{cs:List AV}{x:AV}{u:Value}(h:bA A w sz es us)(hk:es[k]?=some cs)(hj:j <cs.length)(hx:VR A w x u):bA A w sz (es.set k (cs.set j x)) (us.set (k*sz+j) u):=by
 have V:=h.1 k cs hk;refine⟨fun q v D=>?_,fun q p v y D J=>?_⟩
 ·by_cases z:k=q
  ·subst z;rw[List.getElem?_set_self (aC hk)]at D;cases D;rw[List.length_set];exact V
  ·rw[List.getElem?_set_ne z]at D;exact h.1 q v D
 ·have I:∀{q p:Nat} {v:List AV},es[q]?=some v->p <v.length->(q≠k\/p≠j)->q*sz+p≠k*sz+j:=fun{q p v} D J ad e=>by
   have h1:=h.1 q v D;have af:p <sz:=by omega
   have Z:j <sz:=by omega
   have hz:0 <sz:=by omega
   have e1:(q*sz+p) /sz=q:=by rw[Nat.mul_comm,Nat.mul_add_div hz,Nat.div_eq_of_lt af,Nat.add_zero]
   have e2:(k*sz+j) /sz=k:=by rw[Nat.mul_comm,Nat.mul_add_div hz,Nat.div_eq_of_lt Z,Nat.add_zero]
   have e3:q=k:=by rw[<- e1,<- e2,e]
   subst e3;rcases ad with h|h
   ·exact h rfl
   ·omega
  by_cases z:k=q
  ·subst z;rw[List.getElem?_set_self (aC hk)]at D;cases D;by_cases O:j=p
   ·subst O;rw[List.getElem?_set_self hj]at J;cases J;obtain⟨y0,ag⟩:=av hj;obtain⟨U,G,_⟩:=h.2 k j cs y0 hk ag;exact⟨u,by rw[List.getElem?_set_self (aC G)],hx⟩
   ·rw[List.getElem?_set_ne O]at J;obtain⟨U,G,Q⟩:=h.2 k p cs y hk J;exact⟨U,by rw[List.getElem?_set_ne (Ne.symm (I hk (aC J) (.inr (Ne.symm O))))];exact G,Q⟩
  ·rw[List.getElem?_set_ne z]at D;obtain⟨U,G,Q⟩:=h.2 q p v y D J;exact⟨U,by rw[List.getElem?_set_ne (Ne.symm (I D (aC J) (.inl (Ne.symm z))))];exact G,Q⟩
theorem bA.put{A:Nat->Prop}{w:World}{sz k:Nat}:∀(xs:List AV) (vs:List Value) (es:List (List AV)) (us:List Value) (cs:List AV) (j:Nat),bA A w sz es us->es[k]?=some cs->j+xs.length<=cs.length->xs.length=vs.length->(∀(q:Nat) (x:AV) (v:Value),xs[q]?=some x->vs[q]?=some v->VR A w x v)->bA A w sz (es.set k (iX cs j xs)) (dM us (k*sz+j) vs)
 |[],[],es,us,cs,j,h,z,_,_,_=>by
  have:es.set k cs=es:=by
   apply List.ext_getElem?;intro q;by_cases I:k=q
   ·subst I;rw[List.getElem?_set_self (aC z),z]
   ·rw[List.getElem?_set_ne I]
  rw[iX,dM,this];exact h
 |x::xs,v::vs,es,us,cs,j,h,z,D,G,J=>by
  simp only[List.length_cons]at D G;have h1:=h.set z (j:=j) (by omega) (J 0 x v rfl rfl);have h2:=bA.put xs vs _ _ (cs.set j x) (j+1) h1 (List.getElem?_set_self (aC z)) (by rw[List.length_set];omega) (by omega) fun q y u Q O=>J (q+1) y u (by simpa using Q) (by simpa using O);rw[List.set_set]at h2;rw[iX,dM];exact h2
 |[],_::_,_,_,_,_,_,_,_,D,_=>by simp at D
 |_::_,[],_,_,_,_,_,_,_,D,_=>by simp at D
section
variable {P:Program} {γ:Glob} {κ:Ctx} {fr:Fr} {L:Ls} {w:World} {A:Nat->Prop}
def H6{env:Env}{dst:Option Tmp}{ty:TypeId}{pos:String}{after:Array Edge}{g:Option (Nat×Bool)}{t:Nat}{ad val:Operand}{x:SV}{fr':Fr}{ks:List Nat}(h:fW P fr t (rd env ad) (rd env val)=some (x,fr',ks)):
  cj P γ env fr ⟨dst,.store t ad val,ty,pos,after,g⟩ x fr' ks:=fun κ L a w hC aQ=>by
 have v:=bG (aQ ad (by simp[Op.operands]));have af:=bG (aQ val (by simp[Op.operands]));generalize rd env ad=sa at h v;generalize rd env val=sv at h af;unfold fW at h;split at h
 ·cases h
 ·rename_i ag n ht;split at h
  ·cases h
  ·rename_i hc;rw[Bool.and_eq_true]at hc;have ak:=List.all_eq_true.1 hc.1;have hn:(bo sv).length=n:=by simpa using hc.2
   obtain⟨hl,hr⟩:=mU af ak;have aU:=Cj af ak
   have G:∀{b o:Nat} {w1 w':World},a.eval ad=.pointer (some ⟨b,o,none⟩)->(storeCells ⟨b,o,none⟩ (a.eval val).cells.toList).run P w1=.ok () w'->(execOp a.eval ⟨dst,.store t ad val,ty,pos,after,g⟩).run P w1=.ok .skip w':=fun{b o w1 w'} e hs=>by
    have bf:(a.eval val).cells.size=n:=by omega
    simp[execOp,Instr.storeAt,e,Instr.sureAddr,storeVar,Sem.run_bind,(pF ht w1).2,bf,hs,pure,Sem.run]
   split at h
   ·rename_i i j;split at h
    ·rename_i T D hb;split at h
     ·rename_i hj;cases h;rw[Nat.ble_eq]at hj;obtain⟨b,hL,v⟩:=kj v;obtain⟨b',us,h3,h4,h5,h6⟩:=hC.box i _ T D hb;rw[hL]at h3;cases h3;have Z:=(Array.getElem?_eq_some_iff.1 h4).1;have V:=pH (P:=P) (b:=b) (T:=T) j (a.eval val).cells.toList 0 w us h4 (by simp;omega) aU;rw[Nat.add_zero]at V
      obtain⟨I,J⟩:=hC.jZ (w':=dE w b (e8 us j (a.eval val).cells.toList) T) (ks:=[]) (v':=.pointer (some ⟨b,0,none⟩)) (lb':=.box false T (gP D j (bo sv))) hb rfl hL (rT _ _ _ _) (.inl rfl) (fun b' O=>by cases O;rw[vB];exact Z) (.inl rfl) (fun _=>rfl) fun J=>
       xZ bP (pJ Z) (by rw[pA,u3,h5]) (u6 _ _ _ _ _ (by simp;omega) h5 (fun k y u hy hu=>J.sr (h6 k y u hy hu)) fun k y u hy hu=>J.sr (hr k y u hy (by simpa using hu)))
      unfold cr;rw[G v V];exact⟨_,J,I,.dead _⟩
     ·cases h
    ·cases h
   ·rename_i i sz k j;split at h
    ·rename_i a6 bk es hb;split at h
     ·cases h
     ·rename_i hz;obtain rfl:sz=bk:=by simpa using hz
      split at h
      ·cases h
      ·rename_i D hk;split at h
       ·cases h
       ·rename_i hj;rw[Nat.ble_eq]at hj;split at h
        ·cases h
        ·rename_i xs bj;split at h
         ·cases h
         ·rename_i aq;cases h;obtain⟨b,m,c,hL,v⟩:=l8 v;obtain⟨aw,bb,a_⟩:=hC.jw (bg fr (bo sv));have aB:(freeze fr (bg fr (bo sv)))[i]?=some (.row false a6 sz es):=by rw[lZ,hb,aq];rfl
          obtain⟨x1,x2⟩:=mr hC (A:=MA κ.M (freeze fr (bg fr (bo sv))) L) a_ _ _ bj (kZ hC);obtain⟨T,us,U,aN,⟨q,c',e⟩,aM,bc⟩:=dO aw aB hL;cases e;have ao:=aC hk;have U:=U.own (by omega);have aL:=aM k D hk
          have hq:k*sz+j+(a.eval val).cells.toList.length<=us.length:=by
           rw[U.1];have:(k+1)*sz<=es.length*sz:=Nat.mul_le_mul_right _ ao;rw[Nat.add_mul]at this;simp;omega
          obtain⟨w',aY,al,hg⟩:=uX U hq aU P
          have aJ:∃c0,c=c0+1:=by
           rcases U.2 with⟨e,_⟩|⟨g,cap,a7,e,_,_,bq,_⟩
           ·cases e
           ·cases e;exact⟨c - 1,by omega⟩
          obtain⟨c,rfl⟩:=aJ
          have am:bA (MA κ.M (freeze fr (bg fr (bo sv))) L) w sz (es.set k (iX D j xs)) (dM us (k*sz+j) (a.eval val).cells.toList):=bA.put xs _ es us D j ⟨aM,bc⟩ hk (by omega) (by simp;omega) fun q y u hy hu=>by
           obtain⟨s,hs⟩:=av (xs:=bo sv) (k:=q) (by rw[x1];exact aC hy);exact x2 q s y u hs hy (hr q s u hs (by simpa using hu))
          obtain⟨I,J⟩:=aw.jZ (w':=w') (ks:=[]) (v':=.slice (some ⟨b,0,none⟩) es.length (c+1)) (lb':=.row false a6 sz (es.set k (iX D j xs))) aB rfl hL hg (.inl rfl) (fun b' O=>by
            cases O;rcases al.2 with⟨e,_⟩|⟨g,cap,a7,e,_,bd,_⟩
            ·cases e
            ·cases e;exact(Array.getElem?_eq_some_iff.1 bd).1) (.inl rfl) (fun h=>h) fun J=>by
           refine⟨T,_,_,bP,.inr (by rw[List.length_set];exact al),by rw[List.length_set];exact aN,am.1,fun q p au y hq hp=>?_⟩;obtain⟨u,e1,e2⟩:=am.2 q p au y hq hp;exact⟨u,e1,J.vr e2⟩
          unfold cr;rw[G v aY];exact⟨_,bb.trans J,I,.dead _⟩
    ·cases h
   ·rename_i i p k;unfold Ar at h;split at h
    ·rename_i x0 hb;split at h
     ·rename_i fs a1;split at h
      ·rename_i k1 m0 k2 m hk;split at h
       ·rename_i ao;subst ao;cases h;obtain⟨t0,b,n0,c,hL,hv,v⟩:=qT v;obtain⟨v0,t1,e1,e2⟩:=hC.blk i _ hb;rw[hL]at e1;cases e1;obtain⟨v',t',f1,f2,f3⟩:=e2.at_ a1;obtain⟨b',n',c',u,t2,g1,g2,g3,g4,_⟩:=f2.elem hk;have:=f2.hd f1 hv;rw[g1]at this;cases this;have aE:=f3 b g2;obtain⟨Z,D,T,hg⟩:=e2.lt b aE;have an:D[k]?=some u:=by simpa[World.cell?,hg]using g3
        have bl:=(Array.getElem?_eq_some_iff.1 an).1;have bh:a.eval val=.int k1 m:=dK af;have aL:(a.eval val).cells.toList=[.int k1 m]:=by rw[bh];rfl
        have aV:∀z∈[Value.int k1 m],de z=true:=fun z hz=>by
         rw[List.mem_singleton.1 hz];rfl
        have V:=pH (P:=P) (b:=b) (T:=T) k [.int k1 m] 0 w D hg (by simp;omega) aV;rw[Nat.add_zero]at V;have Q:=rT w b (e8 D k [.int k1 m]) T
        obtain⟨I,J⟩:=hC.wM (w':=dE w b (e8 D k [.int k1 m]) T) (ks:=[]) (v':=t0) (lb':=.own false (setAt x0 p k (.int k1 m))) hb rfl hL Q.os Q.tape Q.output Q.size (fun q hq hn=>Q.block q hq fun e=>hn (by cases e;exact aE)) (fun _ h=>.inl h) (fun b' O=>by rw[vB];exact(e2.lt b' O).1) (.inl rfl) (fun h=>h) fun J=>⟨v0,t0,bP,e2.put (m:=m) (fun b' be=>Ac be) (fun au T' h=>by
          rw[hg]at h;cases h;exact pJ Z) a1 hk hv⟩
        unfold cr;rw[G v (by rw[aL];exact V)];exact⟨_,J,I,.dead _⟩
       ·cases h
      ·cases h
     ·cases h
    ·cases h
   ·cases h
def lE(w:World)(q:Option Addr)(cs:List Value):Prop:=0 <cs.length->∃b o,q=some ⟨b,o,none⟩/\b <w.heap.size/\∀j u,cs[j]?=some u->w.cell? ⟨b,o+j,none⟩=some u
def pT{M:Nat->Prop}{es:List (List AV)}{v:Value}{sz:Nat}(y:0 <sz)(h:VR M w (.arr es) v)(hl:∀(k:Nat) (cs:List AV),es[k]?=some cs->cs.length=sz):
  ∃q c us,v=.slice q es.length c/\lE w q us/\us.length=es.length*sz/\∀(k j:Nat) (cs:List AV) (x:AV),es[k]?=some cs->cs[j]?=some x->∃u,us[k*sz+j]?=some u/\VR M w x u:=by
 cases h with
 |bj q c=>exact⟨q,c,[],rfl,fun h=>absurd h (by simp),by simp,fun k j cs x I _=>by simp at I⟩
 |arr b o c sz' _ us hne hlen hcap hb hM hs hc hr=>
  have O:sz'=sz:=by
   obtain⟨U,V⟩:=av (xs:=es) (k:=0) (by cases es with|nil=>exact absurd rfl hne|cons=>simp);rw[<- hs 0 U V,hl 0 U V]
  subst O
  have D:∀q,q <es.length*sz'->((List.range (es.length*sz')).map fun q=>us (q/sz') (q %sz'))[q]?=some (us (q/sz') (q %sz')):=fun q z=>by
   rw[List.getElem?_map,List.getElem?_range z];rfl
  refine⟨_,c,(List.range (es.length*sz')).map fun q=>us (q/sz') (q %sz'),rfl,fun _=>⟨b,o,rfl,hb,fun q u Q=>?_⟩,by simp,fun k j cs x I Z=>?_⟩
  ·have z:q <es.length*sz':=by have:=aC Q;simpa using this
   rw[D q z]at Q;cases Q;have h1:=hc (q/sz') (q %sz') ((Nat.div_lt_iff_lt_mul y).2 z) (Nat.mod_lt _ y);rwa[Nat.mul_comm,Nat.div_add_mod]at h1
  ·have J:=aC I;have G:j <sz':=by rw[<- hl k cs I];exact aC Z
   have z:k*sz'+j <es.length*sz':=by
    have:(k+1)*sz'<=es.length*sz':=Nat.mul_le_mul_right _ J;rw[Nat.add_mul]at this;omega
   have e1:(k*sz'+j) /sz'=k:=by rw[Nat.mul_comm,Nat.mul_add_div y,Nat.div_eq_of_lt G,Nat.add_zero]
   have e2:(k*sz'+j) %sz'=j:=by rw[Nat.mul_comm,Nat.mul_add_mod,Nat.mod_eq_of_lt G]
   refine⟨us k j,?_,hr k j cs x I Z⟩;rw[D _ z,e1,e2]
def zH(I:ar γ κ fr L w){i sz:Nat}{ro tch:Bool}{es:List (List AV)}{v:Value}(hb:fr[i]?=some (.row ro tch sz es))(J:L i=some v):∃q c us,v=.slice q es.length c/\lE w q us/\us.length=es.length*sz/\∀(k j:Nat) (cs:List AV) (x:AV),es[k]?=some cs->cs[j]?=some x->∃u,us[k*sz+j]?=some u/\VR (MA κ.M fr L) w x u:=by
 obtain⟨T,us,y,z,⟨q,c,rfl⟩,O,U⟩:=dO I hb J;refine⟨q,c,us,rfl,fun G=>?_,y.len,U⟩;rcases y with⟨h1,rfl,_⟩|y
 ·simp at G
 ·rcases y.2 with⟨e,h1⟩|⟨g,cap,D,e,_,Q,_⟩
  ·have:=y.1;rw[h1]at this;omega
  ·cases e;exact⟨g,0,rfl,(Array.getElem?_eq_some_iff.1 Q).1,fun j u V=>by rw[Nat.zero_add];exact uW y V⟩
def Ff(Z:ar γ κ fr L w){i sz a n:Nat}{es:List (List AV)}{v:Value}(h:eZ fr i sz a n=some es)(hs:SR (MA κ.M fr L) L w (.lv i sz a n) v):∃q c us,v=.slice q es.length c/\lE w q us/\us.length=es.length*sz/\∀(k j:Nat) (cs:List AV) (x:AV),es[k]?=some cs->cs[j]?=some x->∃u,us[k*sz+j]?=some u/\VR (MA κ.M fr L) w x u:=by
 have D:=uK h;obtain⟨ro,ag,I,hb,h1,rfl⟩:=rc h;obtain⟨b,m,c,hL,rfl⟩:=jD hs;obtain⟨q,c',us,e,hr,U,hc⟩:=zH Z hb hL;cases e;obtain⟨_,_,_,_,_,J,_⟩:=dO Z hb hL;rw[D];have af:a*sz+n*sz<=I.length*sz:=by rw[<- Nat.add_mul];exact Nat.mul_le_mul_right _ h1
 refine⟨_,_,(us.drop (a*sz)).take (n*sz),rfl,fun h0=>?_,by rw[List.length_take,List.length_drop,U];omega,fun k j cs x z hj=>?_⟩
 ·obtain⟨b',o,e,Q,y⟩:=hr (by rw[List.length_take,List.length_drop]at h0;omega);cases e;refine⟨b,a*sz,rfl,Q,fun j u G=>?_⟩;rw[List.getElem?_take]at G;split at G
  ·rw[List.getElem?_drop]at G;have:=y _ u G;rwa[Nat.zero_add]at this
  ·cases G
 ·rw[List.getElem?_take]at z;split at z
  ·rename_i O;rw[List.getElem?_drop]at z;obtain⟨u,V,e2⟩:=hc _ j cs x z hj;refine⟨u,?_,e2⟩;have ad:j <sz:=by rw[<- J _ _ z];exact aC hj
   have h2:(k+1)*sz<=n*sz:=Nat.mul_le_mul_right _ O;rw[Nat.add_mul]at h2 V;rw[List.getElem?_take,if_pos (by omega),List.getElem?_drop,<- V];congr 1;omega
  ·cases z
def rn(hC:ar γ κ fr L w){s:SV}{v:Value}{es:List (List AV)}{sz:Nat}(J:0 <sz)(h:gT fr s=some es)(hs:SR (MA κ.M fr L) L w s v)(hn:cP sz es=true):
  ∃q c us,v=.slice q es.length c/\lE w q us/\us.length=es.length*sz/\(∀u∈us,de u=true)/\bA (MA κ.M fr L) w sz es us:=by
 unfold cP at hn
 have G:∀(k:Nat) (D:List AV),es[k]?=some D->D.length=sz/\D.all mi=true:=fun k D I=>by
  have:=List.all_eq_true.1 hn D (List.mem_of_getElem? I);rw[Bool.and_eq_true]at this;exact⟨by simpa using this.1,this.2⟩
 have Z:∃q c us,v=.slice q es.length c/\lE w q us/\us.length=es.length*sz/\∀(k j:Nat) (D:List AV) (x:AV),es[k]?=some D->D[j]?=some x->∃u,us[k*sz+j]?=some u/\VR (MA κ.M fr L) w x u:=by
  unfold gT at h;split at h
  ·cases h;exact pT J (eB hs (.inl rfl)) fun k D I=>(G k D I).1
  ·cases h;exact pT J (eB hs (.inr (.inr (.inr ⟨rfl,rfl⟩)))) fun k D I=>(G k D I).1
  ·cases h;exact pT J (eB hs (.inr (.inl rfl))) fun k D I=>(G k D I).1
  ·cases h;exact pT J (eB hs (.inr (.inr (.inl rfl)))) fun k D I=>(G k D I).1
  ·split at h
   ·rename_i ro ag U al hb;cases h;obtain⟨hL,_⟩:=iu hs;obtain⟨T,us,am,ak,hf,Q,hr⟩:=dO hC hb hL;rcases es with _|⟨V,et⟩
    ·obtain⟨q,c,rfl⟩:=hf;exact⟨q,c,[],rfl,fun h=>absurd h (by simp),by simp,fun k j D x I _=>by simp at I⟩
    ·have:U=sz:=by rw[<- Q 0 V rfl,(G 0 V rfl).1]
     subst this;exact zH hC hb hL
   ·cases h
  ·rename_i i U a n;obtain⟨ro,ag,ad,hb,h1,he⟩:=rc h;obtain⟨b,m,c,hL,hv⟩:=jD hs;obtain⟨_,_,_,_,_,Q,_⟩:=dO hC hb hL;rcases es with _|⟨V,et⟩
   ·have:=uK h;subst hv;rw[<- this];exact⟨_,_,[],rfl,fun h=>absurd h (by simp),by simp,fun k j D x I _=>by simp at I⟩
   ·have:U=sz:=by
     have h2:((ad.drop a).take n)[0]?=some V:=by rw[<- he];rfl
     rw[List.getElem?_take]at h2;split at h2
     ·rw[List.getElem?_drop]at h2;rw[<- Q _ V h2,(G 0 V rfl).1]
     ·cases h2
    subst this;exact Ff hC h hs
  ·cases h
 obtain⟨q,c,us,h1,h2,h3,h4⟩:=Z;refine⟨q,c,us,h1,h2,h3,fun u hu=>?_,fun k D I=>(G k D I).1,h4⟩;obtain⟨p,hp,rfl⟩:=List.mem_iff_getElem.1 hu;have af:p <es.length*sz:=by omega
 have I:p/sz <es.length:=(Nat.div_lt_iff_lt_mul J).2 af;obtain⟨D,O⟩:=av I;have hj:p %sz <D.length:=by rw[(G _ D O).1];exact Nat.mod_lt _ J
 obtain⟨y,hy⟩:=av hj;obtain⟨u',e1,e2⟩:=h4 _ _ D y O hy;rw[Nat.mul_comm,Nat.div_add_mod,List.getElem?_eq_getElem hp]at e1;cases e1;have ho:=List.all_eq_true.1 (G _ D O).2 y (List.mem_of_getElem? hy);generalize us[p]=z at e2;cases e2 <;>first|rfl|(simp[mi]at ho;done)|(rename_i h;cases z <;>first|rfl|cases h)
def vt{t ty e sz au T n m c:Nat}{v:Value}{us D:List Value}{q:Option Addr}(ht:iC P t=some (e,sz,au))(h:b8 w T sz v n us)(hx:lE w q D)(hl:D.length=m*sz)(h1:∀u∈D,de u=true)(hlen:n+m<=140737488351232)(aw:(n+m)*au<=140737488355328):
  ∃v' w' T',(Builtin.append_ #[t,t] ty #[v,.slice q m c]).run P w=.ok v' w'/\b8 w' T' sz v' (n+m) (us++D)/\w.grownBy w' (bI v)/\(bI v'=bI v\/bI v'=some w.heap.size\/bI v'=none):=by
 obtain⟨i,z,hu,hi,hz,rfl,rfl,a1,aL⟩:=pD ht;have V:=h.len;rcases Nat.eq_zero_or_pos m with h0|h0
 ·subst h0;have hn:D=[]:=List.eq_nil_of_length_eq_zero (by simpa using hl);subst hn
  have af:∀{a:Option Addr} {n cap:Nat},n<=cap->(Builtin.append_ #[t,t] ty #[.slice a n cap,.slice q 0 c]).run P w=.ok (.slice a n cap) w:=fun{a n cap} ag=>by
   cases q <;>cases a <;>simp[Builtin.append_,run_underlying hu,sizeOf,typeInfo,hi,Builtin.lenOf,Builtin.firstCells,loadCells,loadCellsFrom,ag,storeCells]
  refine⟨v,w,T,?_,by simpa using h,⟨rfl,rfl,rfl,Nat.le_refl _,fun _ _ _=>rfl⟩,.inl rfl⟩;rcases h with⟨rfl,_,a,rfl⟩|h
  ·exact af (Nat.le_refl _)
  ·rcases h.2 with⟨rfl,_⟩|⟨g,cap,O,rfl,_,_,ag,_⟩
   ·exact af (Nat.le_refl _)
   ·exact af ag
 ·obtain⟨b,o,rfl,hb,aJ⟩:=hx (by rw[hl];exact Nat.mul_pos h0 aL);have U:∀j u,D[j]?=some u->w.cell? ((⟨b,o,none⟩:Addr).add j)=some u:=fun j u hu=>by rw[addr_add];exact aJ j u hu
  have a6:∀u∈D,u.oneCell'=true:=fun u hu=>by have:=h1 u hu;cases u <;>first|rfl|cases this
  have am:∀(J:Nat),J <n+m->∀(row:Option Nat),b8 (w.drew.alloc (.cells (us.toArray++D.toArray++Builtin.zeroCells z.cells (grownCap w (n+m) J e - (n+m))) e)) e i.size (.slice (some ⟨w.heap.size,0,none⟩) (n+m) (grownCap w (n+m) J e)) (n+m) (us++D)/\
    w.grownBy (w.drew.alloc (.cells (us.toArray++D.toArray++Builtin.zeroCells z.cells (grownCap w (n+m) J e - (n+m))) e)) row:=fun J ho row=>by
   have G:=grownCap_ge w (n+m) J e;have an:grownCap w (n+m) J e<=maxLen:=grownCap_le_maxLen w (n+m) J e (by unfold maxLen;omega);refine⟨.inr ⟨by rw[List.length_append,V,hl,Nat.add_mul],.inr ⟨w.heap.size,_,_,rfl,Nat.zero_le _,heap_alloc_new w.drew _,G,an,?_,?_⟩⟩,⟨rfl,rfl,rfl,by simp,fun k hk _=>Below.heap_alloc w.drew _ k hk⟩⟩
   ·simp only[Array.size_append,List.size_toArray,size_zeroCells,a1,V,hl,<- Nat.add_mul];congr 1;omega
   ·have:(us++D).length=(n+m)*i.size:=by rw[List.length_append,V,hl,Nat.add_mul]
    simp only[Array.toList_append];rw[<- this];exact List.take_left
  have al:∀{a:Addr} {cap:Nat},cap <n+m->(∀j u,us[j]?=some u->w.cell? (a.add j)=some u)->(bI (.slice (some a) n cap)=none\/True)->∃v' w' T',(Builtin.append_ #[t,t] ty #[.slice (some a) n cap,.slice (some ⟨b,o,none⟩) m c]).run P w=.ok v' w'/\b8 w' T' i.size v' (n+m) (us++D)/\w.grownBy w' (bI (.slice (some a) n cap))/\(bI v'=bI (.slice (some a) n cap)\/bI v'=some w.heap.size\/bI v'=none):=fun{a cap} ad aq _=>by
   have hr:=run_append_grow (P:=P) w t ty e i z hu hi hz a n cap us V aq ⟨b,o,none⟩ m c D hl U ad (by omega) (growslice_fits ad aw);obtain⟨m1,m2⟩:=am cap ad (bI (.slice (some a) n cap));have G:=grownCap_ge w (n+m) cap e;obtain⟨k,hk⟩:∃k,grownCap w (n+m) cap e=k+1:=⟨grownCap w (n+m) cap e - 1,by omega⟩;refine⟨_,_,e,hr,m1,m2,.inr (.inl ?_)⟩;rw[hk];rfl
  have I:n=0->us=[]->∃v' w' T',(Builtin.append_ #[t,t] ty #[.slice none 0 0,.slice (some ⟨b,o,none⟩) m c]).run P w=.ok v' w'/\b8 w' T' i.size v' (n+m) (us++D)/\w.grownBy w' none/\(bI v'=none\/bI v'=some w.heap.size\/bI v'=none):=fun Q Z=>by
   subst Q Z;have hr:=run_append_nil (P:=P) w t ty e i z hu hi hz ⟨b,o,none⟩ m c D hl U h0 (by omega) (by have hb:=aw;simp only[Nat.zero_add]at hb;omega);obtain⟨m1,m2⟩:=am 0 (by omega) none;have G:=grownCap_ge w (0+m) 0 e;simp only[Nat.zero_add,List.nil_append,Array.empty_append]at m1 m2 G⊢;obtain⟨k,hk⟩:∃k,grownCap w m 0 e=k+1:=⟨grownCap w m 0 e - 1,by omega⟩;refine⟨_,_,e,hr,m1,m2,.inr (.inl ?_)⟩;rw[hk];rfl
  rcases h with⟨Q,Z,a,rfl⟩|h
  ·cases a with
   |none=>exact I Q Z
   |some a=>
    subst Q;exact al (a:=a) (cap:=0) (by omega) (fun j u hu=>by rw[Z]at hu;simp at hu) (.inr trivial)
  ·rcases h.2 with⟨rfl,Q⟩|⟨g,cap,O,rfl,aQ,hg,ag,an,ao,aY⟩
   ·exact I Q (List.eq_nil_of_length_eq_zero (by rw[V,Q];simp))
   ·rcases Nat.lt_or_ge cap (n+m)with aV|G
    ·exact al aV (h.cells (g:=g) rfl) (.inr trivial)
    ·have hf:=run_firstCells_some (P:=P) w i.size m ⟨b,o,none⟩ m c D hl U;have aB:n*i.size+0+D.length<=O.size:=by rw[hl,ao,Nat.add_zero,<- Nat.add_mul];exact Nat.mul_le_mul_right _ G
     have aN:=pH (P:=P) (b:=g) (T:=T) (n*i.size) D 0 w O hg aB h1;rw[Nat.add_zero]at aN;have aE:=(Array.getElem?_eq_some_iff.1 hg).1;obtain⟨k,rfl⟩:∃k,cap=k+1:=⟨cap - 1,by omega⟩;refine⟨.slice (some ⟨g,0,none⟩) (n+m) (k+1),dE w g (e8 O (n*i.size) D) T,T,?_,.inr ⟨by rw[List.length_append,V,hl,Nat.add_mul],.inr ⟨g,k+1,_,rfl,aQ,pJ aE,G,an,by rw[pA];exact ao,?_⟩⟩,rT _ _ _ _,.inl rfl⟩
     ·simp[Builtin.append_,run_underlying hu,sizeOf,typeInfo,hi,Builtin.lenOf,G,hf,addr_add,aN]
     ·have aU:(n+m)*i.size<=O.toList.length:=by rw[Array.length_toList,ao];exact Nat.mul_le_mul_right _ G
      rw[u2,u5 _ _ _ _ (by rw[hl,<- Nat.add_mul];exact Nat.le_refl _)]
      have aM:∀(vs xs ys:List Value),vs.length=ys.length->dM (xs++ys) xs.length vs=xs++vs:=fun vs=>by
       induction vs with
       |nil=>intro xs ys hy;rw[List.eq_nil_of_length_eq_zero hy.symm];rfl
       |cons v vs ih=>
        intro xs ys hy
        cases ys with
        |nil=>simp at hy
        |cons y ys=>
         rw[dM];have:(xs++y::ys).set xs.length v=(xs++[v])++ys:=by simp
         rw[this];have:=ih (xs++[v]) ys (by simpa using hy);rw[List.length_append]at this;simp only[List.length_cons,List.length_nil,Nat.zero_add]at this;rw[this];simp
      have ak:O.toList.take ((n+m)*i.size)=us++(O.toList.drop (n*i.size)).take (m*i.size):=by
       rw[<- aY,Nat.add_mul,List.take_add]
      rw[ak];have Z:n*i.size=us.length:=V.symm;rw[Z];exact aM D us _ (by rw[List.length_take,List.length_drop];rw[Nat.add_mul]at aU;omega)
end
section
variable {P:Program} {γ:Glob} {env:Env} {fr:Fr} {dst:Option Tmp} {ty:TypeId} {pos:String} {after:Array Edge} {g:Option (Nat×Bool)}
def rm{o:Oper}{sz:Nat}{es:List (List AV)}(h:∀(κ:Ctx) (L:Ls) (a:Act) (w:World),ar γ κ fr L w->(∀y∈o.op.operands,SR (MA κ.M fr L) L w (rd env y) (a.eval y))->∃(T:TypeId) (v:Value) (us:List Value) (w':World),(execOp a.eval o).run P w=.ok (.value v) w'/\Below w.heap.size w w'/\b8 w' T sz v es.length us/\es.length<=140737488351232/\bA (MA κ.M fr L) w sz es us/\∀b,bI v=some b->w.heap.size<=b/\b <w'.heap.size):
  cj P γ env fr o (.ls fr.length) (fr++[.row false false sz es]) []:=fun κ L a w J G=>by
 obtain⟨T,v,us,w',h1,h2,h3,h4,I,V⟩:=h κ L a w J fun y hy=>bG (G y hy)
 obtain⟨z,D⟩:=J.push h2 (.row false false sz es) v V (hpv:=by obtain⟨_,_,rfl⟩:=h3.form;rfl) fun D=>⟨T,v,us,bP,h3,h4,I.1,fun k j O x hk Z=>by
  obtain⟨u,Q,U⟩:=I.2 k j O x hk Z;exact⟨u,Q,D.vr U⟩⟩
 refine .gb h1 ⟨_,D,z,.ls _ v bP ?_⟩;obtain⟨q,c,rfl⟩:=h3.form;rfl
def Fy{o:Oper}{sz:Nat}{es:List (List AV)}(h:∀(κ:Ctx) (L:Ls) (a:Act) (w:World),ar γ κ fr L w->(∀y∈o.op.operands,SR (MA κ.M fr L) L w (rd env y) (a.eval y))->∃(T:TypeId) (v:Value) (us:List Value) (w':World),(execOp a.eval o).run P w=.ok (.value v) w'/\Below w.heap.size w w'/\b8 w' T sz v es.length us/\es.length<=140737488351232/\bA (MA κ.M fr L) w sz es us/\∀b,bI v=some b->w.heap.size<=b/\b <w'.heap.size):cj P γ env fr o (.t (.arr es)) fr []:=fun κ L a w z Q=>by
 obtain⟨T,v,us,w',h1,h2,h3,h4,V,Z⟩:=h κ L a w z fun y hy=>bG (Q y hy)
 obtain⟨O,hT⟩:=z.push h2 (.row false false sz es) v Z (hpv:=by obtain⟨_,_,rfl⟩:=h3.form;rfl) fun hT=>⟨T,v,us,bP,h3,h4,V.1,fun k j cs x hk hj=>by
  obtain⟨u,D,G⟩:=V.2 k j cs x hk hj;exact⟨u,D,hT.vr G⟩⟩
 refine .gb h1 ⟨L,Tr.below h2,z.later h2,.t _ _ ?_⟩;refine rL O (A:=MA κ.M fr L) (fun b J=>⟨J.1,fun⟨i,u,U,D,G,I,e4⟩=>J.2 ⟨i,u,U,?_,G,?_,e4⟩⟩) (i:=fr.length) (sz:=sz) (ro:=false) (tch:=false) (by simp) bP fun b J=>?_
 ·rw[ef (by have:=z.lim i u D;omega)];exact D
 ·rw[List.getElem?_append_left (aC I)];exact I
 ·have hn:=Z b J;refine⟨z.fresh b (by have:=z.size;omega),fun⟨i,u,U,D,G,I,_⟩=>?_⟩;have:=(z.new i u b U D G I).1;omega
def ub{s x:Operand}{t:Nat}{tys:Array TypeId}{args:Array Operand}{a:Act}{w w':World}{v:Value}(u:args.toList=[s,x])(y:tys.toList=[t,t])(h:(Builtin.append_ #[t,t] ty #[a.eval s,a.eval x]).run P w=.ok v w'):(execOp a.eval ⟨dst,.call ⟨.builtin .append,args,tys⟩,ty,pos,after,g⟩).run P w=.ok (.value v) w':=by
 obtain⟨args⟩:=args;obtain⟨tys⟩:=tys;simp only at u y;subst u y;simp only[execOp,resolve,invoke,builtin,Sem.run_bind,Sem.run_pure,Result.andThen_ok,List.map_toArray,List.map_cons,List.map_nil,h]
def pm{n u:Nat}(h:bD n u=true):n<=140737488351232/\n*u<=140737488355328:=by
 unfold bD at h;rw[Bool.and_eq_true,Nat.ble_eq,Nat.ble_eq]at h;exact h
def bA.fp{A:Nat->Prop}{w:World}{sz:Nat}{es fs:List (List AV)}{us vs:List Value}(h:bA A w sz es us)(J:us.length=es.length*sz)(k:bA A w sz fs vs):bA A w sz (es++fs) (us++vs):=by
 refine⟨fun q y v=>?_,fun q j y x v I=>?_⟩
 ·by_cases G:q <es.length
  ·rw[List.getElem?_append_left G]at v;exact h.1 q y v
  ·rw[List.getElem?_append_right (by omega)]at v;exact k.1 _ y v
 ·by_cases G:q <es.length
  ·rw[List.getElem?_append_left G]at v;obtain⟨u,z,D⟩:=h.2 q j y x v I;exact⟨u,by rw[List.getElem?_append_left (aC z)];exact z,D⟩
  ·rw[List.getElem?_append_right (by omega)]at v;obtain⟨u,z,D⟩:=k.2 _ j y x v I;refine⟨u,?_,D⟩;have O:q*sz=es.length*sz+(q - es.length)*sz:=by rw[<- Nat.add_mul];congr 1;omega
   rw[List.getElem?_append_right (by omega),J,show q*sz+j - es.length*sz=(q - es.length)*sz+j by omega];exact z
def bA.nil{A:Nat->Prop}{w:World}{sz:Nat}:bA A w sz [] []:=⟨fun k u h=>by simp at h,fun k j u x h=>by simp at h⟩
def vE{α:Type}{l:List α}{i:Nat}{x:α}(h:l[i]?=some x):l.set i x=l:=by
 obtain⟨u,rfl⟩:=List.getElem?_eq_some_iff.1 h;exact List.set_getElem_self u
theorem bA.take{A:Nat->Prop}{w:World}{sz:Nat}{es:List (List AV)}{us:List Value}(h:bA A w sz es us)(n:Nat):bA A w sz (es.take n) (us.take (n*sz)):=by
 refine⟨fun k y v=>?_,fun k j y x v D=>?_⟩
 ·rw[List.getElem?_take]at v;split at v
  ·exact h.1 k y v
  ·cases v
 ·rw[List.getElem?_take]at v;split at v
  ·rename_i z;obtain⟨u,G,I⟩:=h.2 k j y x v D;have J:j <sz:=by rw[<- h.1 k y v];exact aC D
   have:(k+1)*sz<=n*sz:=Nat.mul_le_mul_right _ z;rw[Nat.add_mul]at this;exact⟨u,by rw[List.getElem?_take,if_pos (by omega)];exact G,I⟩
  ·cases v
def b8.Iy{w:World}{T:TypeId}{sz m n b c:Nat}{us:List Value}(h:b8 w T sz (.slice (some ⟨b,0,none⟩) m c) m us)(hn:n<=m):b8 w T sz (.slice (some ⟨b,0,none⟩) n c) n (us.take (n*sz)):=by
 rcases h with⟨J,rfl,a,e⟩|h
 ·cases e;obtain rfl:n=0:=by omega
  exact .inl ⟨rfl,by simp,_,rfl⟩
 ·rcases h.2 with⟨e,_⟩|⟨g,cap,u,e,D,G,I,v,y,z⟩
  ·cases e
  ·cases e;refine .inr ⟨?_,.inr ⟨b,c,u,rfl,D,G,by omega,v,y,?_⟩⟩
   ·rw[List.length_take,h.1];exact Nat.min_eq_left (Nat.mul_le_mul_right _ hn)
   ·rw[<- z,List.take_take,Nat.min_eq_left (Nat.mul_le_mul_right _ hn)]
theorem u4:∀(vs us:List Value) (o k:Nat),o+vs.length<=us.length->(dM us o vs)[k]?=if o<=k/\k <o+vs.length then vs[k - o]? else us[k]?
 |[],us,o,k,h=>by rw[if_neg (by simp)];rfl
 |v::vs,us,o,k,h=>by
  simp only[List.length_cons]at h;rw[dM,u4 vs _ _ _ (by rw[List.length_set];omega)];simp only[List.length_cons];by_cases h1:o+1<=k/\k <o+1+vs.length
  ·rw[if_pos h1,if_pos (by omega)];obtain⟨q,rfl⟩:∃q,k=o+1+q:=⟨k - (o+1),by omega⟩;rw[Nat.add_sub_cancel_left,Nat.add_assoc,Nat.add_comm 1 q,<- Nat.add_assoc,Nat.add_assoc,Nat.add_sub_cancel_left];rfl
  ·rw[if_neg h1];by_cases h2:k=o
   ·subst h2;rw[if_pos (by omega),List.getElem?_set_self (by omega),Nat.sub_self]
    try rfl
   ·rw[if_neg (by omega),List.getElem?_set_ne (fun e=>h2 e.symm)]
def F5{A:Nat->Prop}{w:World}{x:AV}{u:Value}(h:VR A w x u)(ho:mi x=true):de u=true:=by
 cases h <;>first|rfl|(simp[mi]at ho;done)|(rename_i h;cases u <;>first|rfl|cases h)
def bA.clear{A:Nat->Prop}{w:World}{sz a n:Nat}{es:List (List AV)}{us:List Value}{zs:List AV}{zu:List Value}(h:bA A w sz es us)(O:us.length=es.length*sz)(hz:zs.length=sz)(Q:zu.length=n*sz)(J:a+n<=es.length)(hr:∀(k j:Nat) (x:AV),k <n->zs[j]?=some x->∃u,zu[k*sz+j]?=some u/\VR A w x u):
  bA A w sz (es.take a++List.replicate n zs++es.drop (a+n)) (dM us (a*sz) zu):=by
 have G:∀(k:Nat) (y:List AV),(es.take a++List.replicate n zs++es.drop (a+n))[k]?=some y->(k <a/\es[k]?=some y)\/(a<=k/\k <a+n/\y=zs)\/(a+n<=k/\es[k]?=some y):=fun k y v=>by
  have z:(es.take a).length=a:=by rw[List.length_take];omega
  rw[List.getElem?_append]at v;split at v
  ·rename_i h1;rw[List.length_append,z,List.length_replicate]at h1;rw[List.getElem?_append]at v;split at v
   ·rename_i h2;rw[z]at h2;rw[List.getElem?_take,if_pos h2]at v;exact .inl ⟨h2,v⟩
   ·rename_i h2;rw[z]at h2 v;rw[List.getElem?_replicate,if_pos (by omega)]at v;cases v;exact .inr (.inl ⟨by omega,h1,rfl⟩)
  ·rename_i h1;rw[List.length_append,z,List.length_replicate]at h1 v;rw[List.getElem?_drop]at v;exact .inr (.inr ⟨by omega,by rwa[show a+n+(k - (a+n))=k by omega]at v⟩)
 have U:a*sz+n*sz<=us.length:=by rw[O,<- Nat.add_mul];exact Nat.mul_le_mul_right _ J
 refine⟨fun k y v=>?_,fun k j y x v D=>?_⟩
 ·rcases G k y v with⟨_,h2⟩|⟨_,_,rfl⟩|⟨_,h2⟩
  ·exact h.1 k y h2
  ·exact hz
  ·exact h.1 k y h2
 ·rw[u4 _ _ _ _ (by omega),Q];rcases G k y v with⟨h1,h2⟩|⟨h1,h2,rfl⟩|⟨h1,h2⟩
  ·have I:j <sz:=by rw[<- h.1 k y h2];exact aC D
   have:(k+1)*sz<=a*sz:=Nat.mul_le_mul_right _ h1;rw[Nat.add_mul]at this;rw[if_neg (by omega)];exact h.2 k j y x h2 D
  ·have I:j <sz:=by rw[<- hz];exact aC D
   obtain⟨q,rfl⟩:∃q,k=a+q:=⟨k - a,by omega⟩;have:(q+1)*sz<=n*sz:=Nat.mul_le_mul_right _ (by omega);rw[Nat.add_mul]at this;rw[Nat.add_mul,if_pos (by omega),show a*sz+q*sz+j - a*sz=q*sz+j by omega];exact hr q j x (by omega) D
  ·have I:j <sz:=by rw[<- h.1 k y h2];exact aC D
   have:(a+n)*sz<=k*sz:=Nat.mul_le_mul_right _ h1;rw[Nat.add_mul]at this;rw[if_neg (by omega)];exact h.2 k j y x h2 D
def uc{y:Operand}{t:Nat}{tys:Array TypeId}{args:Array Operand}{a:Act}{w w':World}(u:args.toList=[y])(v:tys.toList=[t])(h:(Builtin.clear_ #[t] ty #[a.eval y]).run P w=.ok (.tuple #[]) w'):(execOp a.eval ⟨dst,.call ⟨.builtin .clear,args,tys⟩,ty,pos,after,g⟩).run P w=.ok (.value (.tuple #[])) w':=by
 obtain⟨args⟩:=args;obtain⟨tys⟩:=tys;simp only at u v;subst u v;simp only[execOp,resolve,invoke,builtin,Sem.run_bind,Sem.run_pure,Result.andThen_ok,List.map_toArray,List.map_cons,List.map_nil,h]
def Cm{y:Operand}{t:Nat}{args:Array Operand}{tys:Array TypeId}{x:SV}{fr':Fr}{ks:List Nat}(G:args.toList=[y])(af:tys.toList=[t])(h:lM P fr t (rd env y)=some (x,fr',ks)):
  cj P γ env fr ⟨dst,.call ⟨.builtin .clear,args,tys⟩,ty,pos,after,g⟩ x fr' ks:=by
 have aU:y∈(Op.call ⟨.builtin .clear,args,tys⟩).operands:=by simp[Op.operands,Call.operands,<- Array.mem_toList_iff,G]
 unfold lM at h;split at h
 ·rename_i e hu;split at h
  ·rename_i i hi;split at h
   ·rename_i z hz;split at h
    ·rename_i zs bW;split at h
     ·rename_i Z;rw[Bool.and_eq_true]at Z;obtain⟨Z,bf⟩:=Z;have Z:=of_decide_eq_true Z;have Q:zs.length=i.size/\zs.all mi=true:=by simpa[cP]using bf
      have ag:∀{q:Option Addr} {c:Nat},(Builtin.clear_ #[t] ty #[.slice q 0 c]).run P=fun w=>.ok (.tuple #[]) w:=fun{q c}=>by
       funext w;cases q <;>simp[Builtin.clear_,run_underlying hu,Sem.run_bind,pure,Sem.run]
      have ak:(∀(κ:Ctx) (L:Ls) (w:World) (v:Value),ar γ κ fr L w->SR (MA κ.M fr L) L w (rd env y) v->∃q c,v=.slice q 0 c)->cj P γ env fr ⟨dst,.call ⟨.builtin .clear,args,tys⟩,ty,pos,after,g⟩ .dead fr []:=fun J κ L a w V au=>by
       obtain⟨q,c,e⟩:=J κ L w _ V (bG (au y aU));refine .gb (uc G af (by rw[e,ag])) ⟨L,Tr.refl,V,.dead _⟩
      have row:∀(r sz U n:Nat),sz=i.size->j0 fr zs r sz U n=some (x,fr',ks)->(∀(κ:Ctx) (L:Ls) (w:World) (v:Value),ar γ κ fr L w->SR (MA κ.M fr L) L w (rd env y) v->∃q b m c c',L r=some (.slice q m c)/\(n≠0->q=some ⟨b,0,none⟩/\v=.slice (some ⟨b,U*sz,none⟩) n c')/\(n=0->∃q,v=.slice q 0 c'))->cj P γ env fr ⟨dst,.call ⟨.builtin .clear,args,tys⟩,ty,pos,after,g⟩ x fr' ks:=fun r sz U n bk D J=>by
       subst bk;unfold j0 at D;split at D
       ·rename_i a6 b0 O hb;split at D
        ·rename_i hc;rw[Bool.and_eq_true,Nat.ble_eq]at hc;obtain rfl:i.size=b0:=by simpa using hc.1
         cases D;intro κ L a w V au;obtain⟨q,b,m,c,c',hL,bl,bq⟩:=J κ L w _ V (bG (au y aU));obtain⟨T,us,I,am,⟨q0,c0,aq⟩,aL,aJ⟩:=dO V hb hL;cases aq;rcases Nat.eq_zero_or_pos n with h0|h0
         ·subst h0;obtain⟨q',e'⟩:=bq rfl;have e2:O.take U++List.replicate 0 zs++O.drop (U+0)=O:=by simp
          rw[e2];refine .gb (uc G af (by rw[e',ag])) ⟨L,?_,?_,.dead _⟩
          ·rw[vE hb];exact Tr.refl
          ·rw[vE hb];exact V
         ·obtain⟨rfl,bb⟩:=bl (by omega);have I:=I.own (by omega);obtain⟨zu,aw⟩:∃zu,(Builtin.zeroCells z.cells n).toList=zu:=⟨_,rfl⟩;have bN:zu.length=n*i.size:=by rw[<- aw,Array.length_toList,size_zeroCells,Z.1]
          have aY:∀q,q <n*i.size->zu[q]?=some (z.cells.getD (q %i.size) undef):=fun q hq=>by
           have aQ:q %i.size <z.cells.size:=by rw[Z.1];exact Nat.mod_lt _ Z.2
           rw[<- aw,Array.getElem?_toList];unfold Builtin.zeroCells;rw[Array.getElem?_map,Array.getElem?_range];simp only[Z.1,hq,if_true,Option.map_some];rw[Array.getD_eq_getD_getElem?,Array.getElem?_eq_getElem aQ,getElem!_pos z.cells _ aQ];rfl
          obtain⟨z1,z2⟩:=mn (A:=MA κ.M fr L) (L:=L) (w:=w) bW
          have a1:∀(k j:Nat) (x:AV),k <n->zs[j]?=some x->∃u,zu[k*i.size+j]?=some u/\VR (MA κ.M fr L) w x u:=fun k j x hk hj=>by
           have ad:j <i.size:=by rw[<- Q.1];exact aC hj
           have hq:k*i.size+j <n*i.size:=by
            have:(k+1)*i.size<=n*i.size:=Nat.mul_le_mul_right _ hk;rw[Nat.add_mul]at this;omega
           refine⟨_,aY _ hq,?_⟩;have e2:(k*i.size+j) %i.size=j:=by rw[Nat.mul_comm,Nat.mul_add_mod,Nat.mod_eq_of_lt ad]
           rw[e2];have aM:j <z.cells.size:=by rw[Z.1];exact ad
           refine z2 j (cv z.cells[j]) x _ (by rw[List.getElem?_map,Array.getElem?_toList,Array.getElem?_eq_getElem aM];rfl) hj ?_;rw[Array.getD_eq_getD_getElem?,Array.getElem?_eq_getElem aM];exact gA _
          have al:∀u∈zu,de u=true:=fun u hu=>by
           obtain⟨p,hp,rfl⟩:=List.mem_iff_getElem.1 hu;have bh:p <n*i.size:=by omega
           have ad:p %i.size <zs.length:=by rw[Q.1];exact Nat.mod_lt _ Z.2
           obtain⟨u',e1,e2⟩:=a1 (p/i.size) (p %i.size) zs[p %i.size] ((Nat.div_lt_iff_lt_mul Z.2).2 bh) (List.getElem?_eq_getElem ad);rw[Nat.mul_comm,Nat.div_add_mod,List.getElem?_eq_getElem hp]at e1;cases e1;exact F5 e2 (List.all_eq_true.1 Q.2 _ (List.getElem_mem ad))
          have b2:U*i.size+n*i.size<=us.length:=by rw[I.1,<- Nat.add_mul];exact Nat.mul_le_mul_right _ hc.2
          obtain⟨w',aV,an,hg⟩:=uX I (q:=U*i.size) (vs:=zu) (by omega) al P
          have aE:∃c1,c=c1+1:=by
           rcases I.2 with⟨e,_⟩|⟨g,cap,aB,e,_,_,b3,_⟩
           ·cases e
           ·cases e;exact⟨c - 1,by omega⟩
          obtain⟨c,rfl⟩:=aE;have ao:=bA.clear (a:=U) (n:=n) (zs:=zs) (zu:=zu) ⟨aL,aJ⟩ I.1 Q.1 bN hc.2 a1;have aN:(O.take U++List.replicate n zs++O.drop (U+n)).length=O.length:=by simp;omega
          obtain⟨a_,hT⟩:=V.jZ (w':=w') (ks:=[]) (v':=.slice (some ⟨b,0,none⟩) O.length (c+1)) (lb':=.row false a6 i.size (O.take U++List.replicate n zs++O.drop (U+n))) hb rfl hL hg (.inl rfl) (fun b' bc=>by
            cases bc;rcases an.2 with⟨e,_⟩|⟨g,cap,aB,e,_,bd,_⟩
            ·cases e
            ·cases e;exact(Array.getElem?_eq_some_iff.1 bd).1) (.inl rfl) (fun h=>h) fun hT=>by
           refine⟨T,_,_,bP,.inr (by rw[aN];exact an),by rw[aN];exact am,ao.1,fun q p a7 y hq hp=>?_⟩;obtain⟨u,e1,e2⟩:=ao.2 q p a7 y hq hp;exact⟨u,e1,hT.vr e2⟩
          refine .gb (uc G af ?_) ⟨_,hT,a_,.dead _⟩;rw[bb];obtain⟨n',rfl⟩:∃k,n=k+1:=⟨n - 1,by omega⟩;simp[Builtin.clear_,run_underlying hu,rR hi hz,Sem.run_bind,aw,aV,pure,Sem.run]
        ·cases D
       ·cases D
      split at h
      ·cases h;exact ak fun κ L w v V J=>by rename_i hs;rw[hs]at J;cases J;exact⟨none,0,rfl⟩
      ·cases h;exact ak fun κ L w v V J=>by
        rename_i hs;rw[hs]at J
        cases J with
        |t _ _ J=>cases J with
         |bj A c=>exact⟨A,c,rfl⟩
         |arr b o c sz O us be=>exact absurd rfl be
      ·rename_i r sz a n hs;split at h
       ·rename_i bM;obtain rfl:sz=i.size:=by simpa using bM
        exact row r i.size a n rfl h fun κ L w v V J=>by
         rw[hs]at J;obtain⟨b,m,c,hL,rfl⟩:=jD J;exact⟨_,b,m,c,c - a,hL,fun _=>⟨rfl,rfl⟩,fun h0=>by subst h0;exact⟨_,rfl⟩⟩
       ·cases h
      ·rename_i r hs;split at h
       ·rename_i ro a6 sz O hb
        exact row r i.size 0 O.length rfl h fun κ L w v V J=>by
         rw[hs]at J;obtain⟨hL,_⟩:=iu J;obtain⟨T,us,I,am,⟨q,c,rfl⟩,aL,aJ⟩:=dO V hb hL;rcases Nat.eq_zero_or_pos O.length with h0|h0
         ·exact⟨q,0,O.length,c,c,hL,fun h=>absurd h0 h,fun _=>⟨q,by rw[h0]⟩⟩
         ·rcases(I.own h0).2 with⟨e,hz⟩|⟨b,cap,aB,e,_⟩
          ·omega
          ·cases e;exact⟨_,b,O.length,c,c,hL,fun _=>⟨rfl,by rw[Nat.zero_mul]⟩,fun b1=>by omega⟩
       ·cases h
      ·cases h
     ·cases h
    ·cases h
   ·cases h
  ·cases h
 ·cases h
def Bq{s y:Operand}{t:Nat}{args:Array Operand}{tys:Array TypeId}{x:SV}{fr':Fr}{ks:List Nat}(J:args.toList=[s,y])(aB:tys.toList=[t,t])(h:oI P fr t (rd env s) (rd env y)=some (x,fr',ks)):
  cj P γ env fr ⟨dst,.call ⟨.builtin .append,args,tys⟩,ty,pos,after,g⟩ x fr' ks:=by
 have aU:s∈(Op.call ⟨.builtin .append,args,tys⟩).operands:=by simp[Op.operands,Call.operands,<- Array.mem_toList_iff,J]
 have aV:y∈(Op.call ⟨.builtin .append,args,tys⟩).operands:=by simp[Op.operands,Call.operands,<- Array.mem_toList_iff,J]
 unfold oI at h;split at h
 ·cases h
 ·rename_i e sz a7 ht;obtain⟨_,_,_,_,_,_,_,_,O⟩:=pD ht;split at h
  ·cases h
  ·rename_i D al;split at h
   ·cases h
   ·rename_i au
    -- a new row out of an empty one,or out of one without room
    have an:∀(Q:List (List AV)),bD (Q.length+D.length) a7=true->(∀(κ:Ctx) (L:Ls) (w:World) (v:Value),ar γ κ fr L w->SR (MA κ.M fr L) L w (rd env s) v->∃(Z:List Value) (T:Nat),bA (MA κ.M fr L) w sz Q Z/\Z.length=Q.length*sz/\
      ∀(q:Option Addr) (c:Nat) (G:List Value),lE w q G->G.length=D.length*sz->(∀u∈G,de u=true)->∃v' w' T',(Builtin.append_ #[t,t] ty #[v,.slice q D.length c]).run P w=.ok v' w'/\b8 w' T' sz v' (Q.length+D.length) (Z++G)/\Below w.heap.size w w'/\(bI v'=some w.heap.size\/bI v'=none))->
      cj P γ env fr ⟨dst,.call ⟨.builtin .append,args,tys⟩,ty,pos,after,g⟩ (.ls fr.length) (fr++[.row false false sz (Q++D)]) []:=fun Q ad bM=>rm fun κ L a w hC af=>by
     obtain⟨h1,h2⟩:=pm ad;obtain⟨q,c,G,e1,e2,e3,e4,e5⟩:=rn hC O al (af y aV) au;obtain⟨Z,T,o1,o2,o3⟩:=bM κ L w _ hC (af s aU);obtain⟨v',w',T',r1,U,r3,r4⟩:=o3 q c G e2 e3 e4;refine⟨T',v',Z++G,w',ub J aB (by rw[e1];exact r1),r3,by rw[List.length_append];exact U,by rw[List.length_append];exact h1,o1.fp o2 e5,fun b hb=>?_⟩;rcases r4 with h|h
     ·rw[h]at hb;cases hb;refine⟨Nat.le_refl _,?_⟩;rcases U with⟨_,_,a',rfl⟩|U
      ·cases a' <;>cases h
      ·rcases U.2 with⟨rfl,_⟩|⟨gg,cap,a_,rfl,_,aq,_⟩
       ·cases h
       ·have I:=(Array.getElem?_eq_some_iff.1 aq).1
        cases cap with
        |zero=>cases h
        |succ cap=>cases h;exact I
     ·rw[h]at hb;cases hb
    have ak:∀{w w':World} {v:Value},bI v=none->w.grownBy w' (bI v)->Below w.heap.size w w':=fun{w w' v} hn hg=>⟨hg.os,hg.tape,hg.output,hg.size,fun k hk=>hg.block k hk (by rw[hn];intro h;cases h)⟩
    have am:bD D.length a7=true->(∀(A:Nat->Prop) (L:Ls) (w:World) (v:Value),SR A L w (rd env s) v->∃a,v=.slice a 0 0)->cj P γ env fr ⟨dst,.call ⟨.builtin .append,args,tys⟩,ty,pos,after,g⟩ (.ls fr.length) (fr++[.row false false sz D]) []:=fun ad hv=>by
     have:=an [] (by simpa using ad) fun κ L w v hC hs=>by
      obtain⟨a,rfl⟩:=hv _ _ _ _ hs;refine⟨[],0,bA.nil,by simp,fun q c G hx hl hp=>?_⟩;obtain⟨h1,h2⟩:=pm ad;obtain⟨v',w',T',r1,U,r3,r4⟩:=vt (P:=P) (ty:=ty) (T:=0) (n:=0) (us:=[]) ht (.inl ⟨rfl,rfl,a,rfl⟩) hx hl hp (by omega) (by simpa using h2);have hn:bI (.slice a 0 0)=none:=by cases a <;>rfl
      refine⟨v',w',T',r1,U,ak hn r3,?_⟩;rcases r4 with r4|r4|r4
      ·rw[hn]at r4;exact .inr r4
      ·exact .inl r4
      ·exact .inr r4
     simpa using this
    split at h
    ·-- a row of the call's own
     rename_i i aY;split at h
     ·rename_i b0 a6 es hb;split at h
      ·rename_i hc;cases h;rw[Bool.and_eq_true]at hc;obtain rfl:sz=a6:=by simpa using hc.1
       obtain⟨h1,h2⟩:=pm hc.2;intro κ L a w hC af;have aw:=bG (af s aU);rw[aY]at aw;obtain⟨q,c,G,e1,e2,e3,e4,e5⟩:=rn hC O al (bG (af y aV)) au;obtain⟨hL,hpv⟩:=iu aw;obtain⟨T,us,aE,bf,ao,aQ,aN⟩:=dO hC hb hL;obtain⟨v',w',T',r1,U,r3,r4⟩:=vt (P:=P) (ty:=ty) ht aE e2 e3 e4 h1 h2
       obtain⟨aM,hT⟩:=hC.jZ (w':=w') (ks:=[i]) (v':=v') (lb':=.row false true sz (es++D)) (hpv:=by obtain⟨_,_,rfl⟩:=U.form;rfl) hb rfl hL r3 r4 (fun b V=>by
         rcases U with⟨_,_,a',rfl⟩|U
         ·cases a' <;>cases V
         ·rcases U.2 with⟨rfl,_⟩|⟨gg,cap,a_,rfl,_,aq,_⟩
          ·cases V
          ·have I:=(Array.getElem?_eq_some_iff.1 aq).1
           cases cap with
           |zero=>cases V
           |succ cap=>cases V;exact I) (.inr ⟨by simp,rfl⟩) (fun h=>by cases h) fun hT=>by
        have ag:bA (MA κ.M fr L) w sz (es++D) (us++G):=bA.fp ⟨aQ,aN⟩ aE.len e5;refine⟨T',v',us++G,bP,by rw[List.length_append];exact U,by rw[List.length_append];exact h1,ag.1,fun k j cs x hk hj=>?_⟩;obtain⟨u,f1,f2⟩:=ag.2 k j cs x hk hj;exact⟨u,f1,hT.vr f2⟩
       refine .gb (ub J aB (by rw[e1];exact r1)) ⟨_,hT,aM,.ls _ v' bP ?_⟩;obtain⟨q',c',rfl⟩:=U.form;rfl
      ·cases h
     ·cases h
    ·-- a piece of a row,from its beginning
     rename_i i dG n aY;split at h
     ·rename_i b0 a6 es hb;split at h
      ·rename_i hc;cases h;rw[Bool.and_eq_true,Bool.and_eq_true,Bool.and_eq_true,Nat.ble_eq]at hc;obtain rfl:sz=a6:=by simpa using hc.1
       obtain rfl:dG=sz:=by simpa using hc.2.1
       obtain⟨h1,h2⟩:=pm hc.2.2.2;intro κ L a w hC af;have aw:=bG (af s aU);rw[aY]at aw;obtain⟨q,c,G,e1,e2,e3,e4,e5⟩:=rn hC O al (bG (af y aV)) au;obtain⟨bb,m,cc,hL,hv⟩:=jD aw;obtain⟨T,us,aE,bf,⟨q0,c0,ao⟩,aQ,aN⟩:=dO hC hb hL;cases ao;have a1:a.eval s=.slice (some ⟨bb,0,none⟩) n cc:=by rw[hv];simp
       have aL:b8 w T dG (.slice (some ⟨bb,0,none⟩) n cc) n (us.take (n*dG)):=aE.Iy hc.2.2.1;have I:(es.take n).length=n:=by rw[List.length_take];omega
       obtain⟨v',w',T',r1,U,r3,r4⟩:=vt (P:=P) (ty:=ty) ht aL e2 e3 e4 h1 h2;have bj:bI (.slice (some ⟨bb,0,none⟩) n cc)=bI (.slice (some ⟨bb,0,none⟩) es.length cc):=by cases cc <;>rfl
       rw[bj]at r3 r4
       obtain⟨aM,hT⟩:=hC.jZ (w':=w') (ks:=[i]) (v':=v') (lb':=.row false true dG (es.take n++D)) (hpv:=by obtain⟨_,_,rfl⟩:=U.form;rfl) hb rfl hL r3 r4 (fun b V=>by
         rcases U with⟨_,_,a',rfl⟩|U
         ·cases a' <;>cases V
         ·rcases U.2 with⟨rfl,_⟩|⟨gg,cap,a_,rfl,_,aq,_⟩
          ·cases V
          ·have I:=(Array.getElem?_eq_some_iff.1 aq).1
           cases cap with
           |zero=>cases V
           |succ cap=>cases V;exact I) (.inr ⟨by simp,rfl⟩) (fun h=>by cases h) fun hT=>by
        have ag:bA (MA κ.M fr L) w dG (es.take n++D) (us.take (n*dG)++G):=bA.fp (bA.take ⟨aQ,aN⟩ n) (by rw[I];exact aL.len) e5;refine⟨T',v',us.take (n*dG)++G,bP,by rw[List.length_append,I];exact U,by rw[List.length_append,I];exact h1,ag.1,fun k j cs x hk hj=>?_⟩;obtain⟨u,f1,f2⟩:=ag.2 k j cs x hk hj;exact⟨u,f1,hT.vr f2⟩
       refine .gb (ub J aB (by rw[e1,a1];exact r1)) ⟨_,hT,aM,.ls _ v' bP ?_⟩;obtain⟨q',c',rfl⟩:=U.form;rfl
      ·cases h
     ·cases h
    ·rename_i hs;split at h
     ·rename_i ad;cases h;exact am ad fun A L w v hv=>by rw[hs]at hv;cases hv;exact⟨none,rfl⟩
     ·cases h
    ·rename_i hs;split at h
     ·rename_i ad;cases h;exact am ad fun A L w v hv=>by rw[hs]at hv;cases hv with|tc _ a h=>exact⟨a,rfl⟩
     ·cases h
    ·rename_i e0 et hs;split at h
     ·rename_i c0 ct;split at h
      ·rename_i hc;cases h;rw[Bool.and_eq_true]at hc;obtain⟨h1,h2⟩:=pm hc.2;refine an (e0::et) hc.2 fun κ L w v hC hv=>?_;rw[hs]at hv;have a1:VR (MA κ.M fr L) w (.arr (e0::et)) v:=eB hv (.inr (.inl rfl));have bh:=hc.1;unfold cP at bh
       have aJ:∀(k:Nat) (cs:List AV),(e0::et)[k]?=some cs->cs.length=sz:=fun k cs hk=>by
        have:=List.all_eq_true.1 bh cs (List.mem_of_getElem? hk);rw[Bool.and_eq_true]at this;simpa using this.1
       obtain⟨q',c',Z,f1,f2,f3,f4⟩:=pT O a1 aJ;refine⟨Z,0,⟨aJ,f4⟩,f3,fun q c G hx hl hp=>?_⟩;have bN:∃a,v=.slice a (e0::et).length (e0::et).length:=by cases hv with|tc _ a h=>exact⟨a,rfl⟩
       obtain⟨a,rfl⟩:=bN;cases f1;obtain⟨i,z,hu,hi,hz,be,bk,bW,O⟩:=pD ht;subst be bk;obtain⟨b,o,rfl,hb,bl⟩:=f2 (by rw[f3];exact Nat.mul_pos (by simp) O);obtain⟨b2,o2,rfl,b1,bc⟩:=hx (by rw[hl];exact Nat.mul_pos (by simp) O);have I:(e0::et).length <(e0::et).length+(c0::ct).length:=by simp
       have hr:=run_append_grow (P:=P) w t ty e i z hu hi hz ⟨b,o,none⟩ _ _ Z f3 (fun j u hu=>by rw[addr_add];exact bl j u hu) ⟨b2,o2,none⟩ _ c G hl (fun j u hu=>by rw[addr_add];exact bc j u hu) I (by omega) (growslice_fits I h2);have bd:=grownCap_ge w ((e0::et).length+(c0::ct).length) (e0::et).length e;have bq:grownCap w ((e0::et).length+(c0::ct).length) (e0::et).length e<=maxLen:=grownCap_le_maxLen w _ _ e (by unfold maxLen;omega);refine⟨_,_,e,hr,.inr ⟨by rw[List.length_append,f3,hl,Nat.add_mul],.inr ⟨w.heap.size,_,_,rfl,Nat.zero_le _,heap_alloc_new w.drew _,bd,bq,?_,?_⟩⟩,⟨rfl,rfl,rfl,by simp,fun k hk=>Below.heap_alloc w.drew _ k hk⟩,.inl ?_⟩
       ·simp only[Array.size_append,List.size_toArray,size_zeroCells,bW,f3,hl,<- Nat.add_mul];congr 1;omega
       ·have:(Z++G).length=((e0::et).length+(c0::ct).length)*i.size:=by rw[List.length_append,f3,hl,Nat.add_mul]
        simp only[Array.toList_append];rw[<- this];exact List.take_left
       ·obtain⟨k,hk⟩:∃k,grownCap w ((e0::et).length+(c0::ct).length) (e0::et).length e=k+1:=⟨grownCap w ((e0::et).length+(c0::ct).length) (e0::et).length e - 1,by simp at bd⊢;omega⟩;rw[hk];rfl
      ·cases h
     ·cases h
    ·cases h
def E6{t:Nat}{parts:Array (Nat×Operand)}{e sz v:Nat}(ht:iC P t=some (e,sz,v))(hp:parts.toList=[]):cj P γ env fr ⟨dst,.buildSlice t 0 parts,ty,pos,after,g⟩ (.ls fr.length) (fr++[.row false false sz []]) []:=rm fun κ L a w V O=>by
 obtain⟨i,z,Q,J,Z,rfl,rfl,U,G⟩:=pD ht;obtain rfl:parts=#[]:=by simpa using hp
 have D:(Instr.buildSlice t 0 #[]).run P w=.ok (.slice (some ⟨w.heap.size,0,none⟩) 0 0) (w.alloc (.cells #[] e)):=by
  unfold Instr.buildSlice;simp[run_underlying Q,gS J,Sem.run_bind,Instr.fill,newRow,newObj,pure,Sem.run];congr 2;apply Array.ext
  ·simp
  ·intro k h1 _;simp at h1
 have I:execOp a.eval ⟨dst,.buildSlice t 0 #[],ty,pos,after,g⟩=(do pure (.value (<- Instr.buildSlice t 0 ((#[]:Array (Nat×Operand)).map fun(i,x)=>(i,a.eval x))))):=rfl;have u:(execOp a.eval ⟨dst,.buildSlice t 0 #[],ty,pos,after,g⟩).run P w=.ok (.value (.slice (some ⟨w.heap.size,0,none⟩) 0 0)) (w.alloc (.cells #[] e)):=oX I (by rw[Array.map_empty];exact D);have y:Below w.heap.size w (w.alloc (.cells #[] e)):=(Below.refl _ _).alloc (Nat.le_refl _) _;exact⟨e,_,[],_,u,y,.inl ⟨rfl,rfl,_,rfl⟩,by rw[List.length_nil];omega,bA.nil,fun b y=>by cases y⟩
def BV{op:Op}{x:SV}{fr':Fr}(h:tT P env fr op=some (x,fr')):cj P γ env fr ⟨dst,op,ty,pos,after,g⟩ x fr' []:=by
 unfold tT at h;split at h
 ·rename_i t I v;split at h
  ·rename_i D;split at h
   ·rename_i c V J;cases h;refine rm fun κ L a w hC Q=>?_
    obtain⟨e,sz,us,h1,Z,hl,h2,h3,h4,h5⟩:=wE (A:=MA κ.M fr L) (L:=L) (w:=w) J (vs:=(v.map fun(i,x)=>(i,a.eval x)).toList) (by simp) fun k p q z G=>by
      rw[Array.toList_map,List.getElem?_map]at G;rw[List.getElem?_map]at z
      cases O:v.toList[k]? with
      |none=>rw[O]at G;cases G
      |some y=>
       rw[O]at G z;cases G;cases z;refine⟨rfl,mU (Q y.2 ?_) (List.all_eq_true.1 (List.all_eq_true.1 D y (List.mem_of_getElem? O)))⟩;have:=List.mem_of_getElem? O;simp[Op.operands];exact⟨y.1,by simpa using this⟩
    have U:c.length=sz:=h4 0 c rfl;rw[U];refine⟨e,_,us.toList,_,oX rfl h1,(Below.refl _ _).alloc (Nat.le_refl _) _,?_,by omega,⟨h4,fun k j V x z hj=>?_⟩,fun b J=>?_⟩
    ·rw[h3];refine .inr ⟨by simpa using h2,.inr ⟨w.heap.size,I,us,rfl,Nat.zero_le _,by show(w.heap.push _)[w.heap.size]?=_;exact Array.getElem?_push_size,Nat.le_refl _,by unfold maxLen;omega,h2,?_⟩⟩;rw[<- h2,<- Array.length_toList,List.take_length]
    ·obtain⟨u,e1,e2⟩:=h5 k j V x z hj;exact⟨u,by simpa using e1,e2⟩
    ·cases I with
     |zero=>cases J
     |succ k=>cases J;exact⟨Nat.le_refl _,by simp⟩
   ·cases h
  ·cases h
 ·cases h
def yj{fr0:Fr}{t:Nat}{l c:Operand}{x:SV}{fr':Fr}{ks:List Nat}(h:ky P fr0 t (rd env l) (rd env c)=some (x,fr',ks)):∃(sz:Nat) (es:List (List AV)),x=.ls fr0.length/\fr'=fr0++[.row false false sz es]/\ks=[]/\∀(κ:Ctx) (L:Ls) (a:Act) (w:World),ar γ κ fr L w->(∀y∈(Op.makeSlice t l c).operands,SR (MA κ.M fr L) L w (rd env y) (a.eval y))->∃(T:TypeId) (v:Value) (us:List Value) (w':World),(execOp a.eval ⟨dst,.makeSlice t l c,ty,pos,after,g⟩).run P w=.ok (.value v) w'/\Below w.heap.size w w'/\b8 w' T sz v es.length us/\es.length<=140737488351232/\bA (MA κ.M fr L) w sz es us/\∀b,bI v=some b->w.heap.size<=b/\b <w'.heap.size:=by
 unfold ky at h;split at h
 ·rename_i e hu;split at h
  ·rename_i i hi;split at h
   ·rename_i z hz;split at h
    ·rename_i zs ao J;have J:=of_decide_eq_true J;split at h
     ·rename_i m n hl hc;split at h
      ·rename_i u;cases h;simp only[Bool.and_eq_true,Nat.ble_eq,decide_eq_true_eq]at u;obtain⟨⟨⟨h0,am⟩,aq⟩,hn⟩:=u;refine⟨i.size,List.replicate m.toNat zs,rfl,rfl,rfl,fun κ L a w hC af=>?_⟩;have h1:=af l (by simp[Op.operands]);have h2:=af c (by simp[Op.operands]);rw[hl]at h1;rw[hc]at h2;have h1:=dK h1;have h2:=dK h2
       have Q:(i.bytes:Int)*n<=281474976710656:=by
        have e1:((n.toNat*i.bytes:Nat):Int)<=281474976710656:=by omega
        rw[Int.natCast_mul,Int.toNat_of_nonneg (by omega),Int.mul_comm]at e1;exact e1
       have hr:=run_make (P:=P) w t e i z hu hi hz .i64 .i64 m n h0 am Q (by omega);have U:(madeCells z.cells (n.toNat*i.size)).size=n.toNat*i.size:=size_madeCells _ _;have D:m.toNat<=n.toNat:=by omega
       obtain⟨z1,z2⟩:=mn (A:=MA κ.M fr L) (L:=L) (w:=w) ao;have ag:zs.length=i.size:=by rw[<- z1,List.length_map,Array.length_toList,J.1]
       have I:(List.replicate m.toNat zs).length=m.toNat:=List.length_replicate
       have ak:∀q,q <m.toNat*i.size->((madeCells z.cells (n.toNat*i.size)).toList.take (m.toNat*i.size))[q]?=some (z.cells.getD (q %i.size) undef):=fun q O=>by
        have an:q <n.toNat*i.size:=Nat.lt_of_lt_of_le O (Nat.mul_le_mul_right _ D);have ad:q %i.size <z.cells.size:=by rw[J.1];exact Nat.mod_lt _ J.2
        rw[List.getElem?_take,if_pos O,Array.getElem?_toList];unfold madeCells;rw[Array.getElem?_map,Array.getElem?_range];simp only[an,if_true,Option.map_some,J.1];rw[Array.getD_eq_getD_getElem?,Array.getElem?_eq_getElem ad,getElem!_pos z.cells _ ad];rfl
       refine⟨e,_,(madeCells z.cells (n.toNat*i.size)).toList.take (m.toNat*i.size),_,oX rfl (by rw[h1,h2];exact hr),(Below.refl _ _).alloc (Nat.le_refl _) _,?_,by rw[I];omega,⟨fun k cs G=>?_,fun k j cs x G hj=>?_⟩,fun b Q=>?_⟩
       ·rw[I];refine .inr ⟨by rw[List.length_take,Array.length_toList,U];exact Nat.min_eq_left (Nat.mul_le_mul_right _ D),.inr ⟨w.heap.size,n.toNat,_,rfl,Nat.zero_le _,by show(w.heap.push _)[w.heap.size]?=_;exact Array.getElem?_push_size,D,by unfold maxLen;omega,U,rfl⟩⟩
       ·rw[List.getElem?_replicate]at G;split at G
        ·cases G;exact ag
        ·cases G
       ·rw[List.getElem?_replicate]at G;split at G
        ·rename_i al;cases G;have V:j <i.size:=by rw[<- ag];exact aC hj
         have O:k*i.size+j <m.toNat*i.size:=by
          have:(k+1)*i.size<=m.toNat*i.size:=Nat.mul_le_mul_right _ al;rw[Nat.add_mul]at this;omega
         refine⟨_,ak _ O,?_⟩;have e2:(k*i.size+j) %i.size=j:=by rw[Nat.mul_comm,Nat.mul_add_mod,Nat.mod_eq_of_lt V]
         rw[e2];have Z:j <z.cells.size:=by rw[J.1];exact V
         refine z2 j (cv z.cells[j]) x _ (by rw[List.getElem?_map,Array.getElem?_toList,Array.getElem?_eq_getElem Z];rfl) hj ?_;rw[Array.getD_eq_getD_getElem?,Array.getElem?_eq_getElem Z];exact gA _
        ·cases G
       ·cases O:n.toNat with
        |zero=>rw[O]at Q;cases Q
        |succ k=>rw[O]at Q;cases Q;exact⟨Nat.le_refl _,by simp⟩
      ·cases h
     ·cases h
    ·cases h
   ·cases h
  ·cases h
 ·cases h
def Fj{t:Nat}{l c:Operand}{x:SV}{fr':Fr}{ks:List Nat}(h:ky P fr t (rd env l) (rd env c)=some (x,fr',ks)):cj P γ env fr ⟨dst,.makeSlice t l c,ty,pos,after,g⟩ x fr' ks:=by
 obtain⟨sz,v,rfl,rfl,rfl,u⟩:=yj (γ:=γ) (fr:=fr) (dst:=dst) (ty:=ty) (pos:=pos) (after:=after) (g:=g) h;exact rm u
def Fi{t:Nat}{l c:Operand}{x:SV}{fr':Fr}{ks:List Nat}(h:pq P fr t (rd env l) (rd env c)=some (x,fr',ks)):cj P γ env fr ⟨dst,.makeSlice t l c,ty,pos,after,g⟩ x fr' ks:=by
 unfold pq at h;split at h
 ·rename_i v;cases h;obtain⟨sz,z,_,u,_,y⟩:=yj (γ:=γ) (fr:=fr) (dst:=dst) (ty:=ty) (pos:=pos) (after:=after) (g:=g) v;cases u;exact Fy y
 ·cases h
end
section
variable {P:Program} {γ:Glob} {fr:Fr} {env:Env} {dst:Option Tmp} {ty:TypeId} {pos:String} {after:Array Edge} {g:Option (Nat×Bool)}
def Fh{t:Nat}:cj P γ env fr ⟨dst,.makeMap t none,ty,pos,after,g⟩ (.lm fr.length) (fr++[.map false [] []]) []:=fun κ L a w I O=>by
 have z:Below w.heap.size w (w.alloc (.map #[] 0)):=(Below.refl _ _).alloc (Nat.le_refl _) _;obtain⟨y,G⟩:=I.push z (.map false [] []) (.map (some w.heap.size)) (fun b J=>by cases J;exact⟨Nat.le_refl _,by simp⟩) fun G=>⟨w.heap.size,#[],0,bP,by show(w.heap.push (.map #[] 0))[w.heap.size]?=_;exact Array.getElem?_push_size,rfl,rfl,fun j x u D _=>by simp at D,fun j x u D _=>by simp at D,fk.nil _⟩;exact .gb (v:=.map (some w.heap.size)) (by simp[execOp,Instr.makeMap,Sem.run_bind,newObj,pure,Sem.run]) ⟨_,G,y,.lm _ _ bP⟩
def dP(w:World)(r:Nat)(o:Obj):World:={w with heap:=w.heap.setIfInBounds r o}
def vC{w:World}{r:Nat}{o:Obj}(h:r <w.heap.size):(dP w r o).heap[r]?=some o:=by
 show(w.heap.setIfInBounds r o)[r]?=_
 rw[Array.getElem?_setIfInBounds_self_of_lt h]
def vD(w:World)(r:Nat)(o:Obj):w.grownBy (dP w r o) (some r):=⟨rfl,rfl,rfl,by simp[dP],fun k _ u=>by
 show(w.heap.setIfInBounds r o)[k]?=_
 rw[Array.getElem?_setIfInBounds_ne (fun e=>u (by rw[e]))]⟩
def s9(a b:ByteArray):(a==b)=decide (a=b):=by
 obtain⟨x⟩:=a;obtain⟨y⟩:=b;show(x==y)=_
 by_cases h:x=y <;>simp[h]
def Db{d:TypeDesc}{k x:AV}(h:ij d [k] [x]=some true):k=x:=by
 unfold ij at h;split at h
 ·rename_i u v;cases u;cases v;split at h
  ·rename_i y;subst y;simp at h;rw[h]
  ·cases h
 ·rename_i u v;cases u;cases v;simp at h;rw[h]
 ·rename_i u v;cases u;cases v;rw[s9]at h;simp at h;rw[h]
 ·cases h
def Ha{A:Nat->Prop}{w:World}{d:TypeDesc}{k:AV}{u v:Value}(h:qW d k=true)(y:VR A w k u)(hv:VR A w k v)(n:Nat):Instr.sameBits (n+1) u v=true:=by
 unfold qW at h;split at h
 ·cases y;cases hv;simp[Instr.sameBits]
 ·cases y;cases hv;simp[Instr.sameBits]
 ·cases y;cases hv;simp[Instr.sameBits,s9]
 ·cases h
theorem rS:∀(xs u:List AV),fU xs u=true->xs=u
 |[],[],_=>rfl
 | .int k m::xs,.int j n::u,h=>by
  unfold fU at h;simp only[Bool.and_eq_true,decide_eq_true_eq]at h;rw[h.1,h.2.1,rS xs u h.2.2]
 | .bool a::xs,.bool b::u,h=>by
  unfold fU at h;simp only[Bool.and_eq_true,beq_iff_eq]at h;rw[h.1,rS xs u h.2]
 | .str a::xs,.str b::u,h=>by
  unfold fU at h;simp only[Bool.and_eq_true,decide_eq_true_eq]at h;rw[h.1,rS xs u h.2]
theorem z8{A:Nat->Prop}{w:World}(n:Nat):∀(xs:List AV) (us vs:List Value),fU xs xs=true->us.length=xs.length->vs.length=xs.length->(∀(j:Nat) (x:AV) (u:Value),xs[j]?=some x->us[j]?=some u->VR A w x u)->(∀(j:Nat) (x:AV) (u:Value),xs[j]?=some x->vs[j]?=some u->VR A w x u)->((us.zip vs).all fun(x,y)=>Instr.sameBits (n+1) x y)=true
 |[],[],[],_,_,_,_,_=>rfl
 |x::xs,u::us,v::vs,h,h1,h2,I,J=>by
  have G:=fun h=>z8 n xs us vs h (by simpa using h1) (by simpa using h2) (fun j x u D z=>I (j+1) x u D z) (fun j x u D z=>J (j+1) x u D z);have h3:=I 0 x u rfl rfl;have h4:=J 0 x v rfl rfl;rw[List.zip_cons_cons,List.all_cons,Bool.and_eq_true]
  cases x with
  |int k m=>
   unfold fU at h;simp only[Bool.and_eq_true,decide_eq_true_eq]at h;refine⟨?_,G h.2.2⟩;cases h3;cases h4;simp[Instr.sameBits]
  |bool b=>
   unfold fU at h;simp only[Bool.and_eq_true,beq_iff_eq]at h;refine⟨?_,G h.2⟩;cases h3;cases h4;simp[Instr.sameBits]
  |str s=>
   unfold fU at h;simp only[Bool.and_eq_true,decide_eq_true_eq]at h;refine⟨?_,G h.2⟩;cases h3;cases h4;simp[Instr.sameBits,s9]
  |_=>unfold fU at h;cases h
 |[],_::_,_,_,h,_,_,_=>by simp at h
 |[],[],_::_,_,_,h,_,_=>by simp at h
 |_::_,[],_,_,h,_,_,_=>by simp at h
 |_::_,_::_,[],_,_,h,_,_=>by simp at h
def Hb{A:Nat->Prop}{w:World}{xs:List AV}{u v:Value}(h:fU xs xs=true)(y:VR A w (.agg xs) u)(hv:VR A w (.agg xs) v)(n:Nat):Instr.sameBits (n+2) u v=true:=by
 cases y with
 |agg _ us hl1 hr1=>
  cases hv with
  |agg _ vs hl2 hr2=>
   unfold Instr.sameBits;rw[Bool.and_eq_true];refine⟨by simp[hl1,hl2],z8 n xs us.toList vs.toList h (by simpa using hl1) (by simpa using hl2) (fun j x u z y=>hr1 j x u z (by simpa using y)) (fun j x u z y=>hr2 j x u z (by simpa using y))⟩
def Eh{t:Nat}{m k y:Operand}{op:Op}{x:SV}{fr':Fr}{ks:List Nat}(U:op=.insert t m k y\/op=.mapUpdate t m k y)(h:qS P fr t (rd env m) (rd env k) (rd env y)=some (x,fr',ks)):cj P γ env fr ⟨dst,op,ty,pos,after,g⟩ x fr' ks:=fun κ L a w hC an=>by
 have am:execOp a.eval ⟨dst,op,ty,pos,after,g⟩=(do Instr.mapUpdate t (a.eval m) (a.eval k) (a.eval y);pure .skip):=by rcases U with rfl|rfl <;>rfl
 have hm:=bG (an m (by rcases U with rfl|rfl <;>simp[Op.operands]));have hk:=bG (an k (by rcases U with rfl|rfl <;>simp[Op.operands]));have hy:=bG (an y (by rcases U with rfl|rfl <;>simp[Op.operands]));unfold qS at h;split at h
 ·cases h
 ·rename_i e kt n ht;obtain⟨fs,aQ,af,aM,aw⟩:=ym ht;split at h
  ·rename_i i cs a1 aY;rw[a1]at hm;rw[aY]at hk;have ad:VR (MA κ.M fr L) w (.agg cs) (a.eval k):=by cases hk with|t _ _ h=>exact h
   obtain⟨us,aN,ag⟩:∃us,a.eval k=.agg us/\jj (MA κ.M fr L) w cs us:=by
    generalize a.eval k=z at ad;cases ad with|agg _ us h1 h2=>exact⟨us,rfl,h1,h2⟩
   split at h
   ·rename_i iW a6 hi;split at h
    ·cases h
    ·rename_i aV;have au:cs.length=n:=by simpa using aV
     obtain⟨r,G,I,h1,h2,h3,h4,h5,h6,aL⟩:=hC.blk i _ hi
     have hv:a.eval m=.map (some r):=by
      generalize a.eval m=z at hm
      cases hm with
      |lm _ r' hL=>rw[h1]at hL;cases hL;rfl
     have ak:=(Array.getElem?_eq_some_iff.1 h2).1;have hg:(getObj r).run P w=.ok (.map G I) w:=by simp[getObj,Sem.run,h2]
     have al:∀(V:Array MapEntry) (c:Nat),(setObj r (.map V c)).run P w=.ok () (dP w r (.map V c)):=fun V c=>by simp[setObj,Sem.run,h2,dP]
     have step:∀(V:Array MapEntry) (c:Nat) (O:List AV) (Q:List SV),(Instr.mapUpdate t (a.eval m) (a.eval k) (a.eval y)).run P w=.ok () (dP w r (.map V c))->V.size=O.length->V.size=Q.length->(∀(j:Nat) (x:AV) (e:MapEntry),O[j]?=some x->V[j]?=some e->VR (MA κ.M fr L) w x e.key)->(∀(j:Nat) (x:SV) (e:MapEntry),Q[j]?=some x->V[j]?=some e->SR (MA κ.M fr L) L w x e.val)->fk V c->
       cr P ⟨dst,op,ty,pos,after,g⟩ a w fun v w'=>∃L',Tr κ.M fr L w (fr.set i (.map false O Q)) L' w' []/\ar γ κ (fr.set i (.map false O Q)) L' w'/\SR (MA κ.M (fr.set i (.map false O Q)) L') L' w' .dead v:=fun V c O Q aE e1 e2 e3 e4 e5=>by
      obtain⟨aU,hT⟩:=hC.jZ (w':=dP w r (.map V c)) (ks:=[]) (v':=.map (some r)) (lb':=.map false O Q) hi rfl h1 (vD w r _) (.inl rfl) (fun b hb=>by cases hb;simp[dP];exact ak) (.inl rfl) (fun _=>rfl) fun hT=>⟨r,V,c,bP,vC ak,e1,e2,fun j x u hx hu=>hT.vr (e3 j x u hx hu),fun j x u hx hu=>by rw[sV h1]at hT⊢;exact hT.sr (e4 j x u hx hu),e5⟩;unfold cr;rw[am,Sem.run_bind,aE];exact⟨_,hT,aU,.dead _⟩
     split at h
     ·cases h
     ·rename_i j hf;rcases pE aM ag iW G.toList 0 _ (by simpa using h3.symm) (fun j x e hx D=>h5 j x e hx (by simpa using D)) hf with⟨h7,_⟩|⟨j',e',h7,h8,h9⟩
      ·cases h7
      ·rw[Nat.zero_add]at h7 h9;cases h7;split at h
       ·rename_i ds aq;split at h
        ·rename_i aJ;cases h;obtain rfl:=rS _ _ aJ;have Z:G[j]?=some e':=by simpa using h8
         have ao:Instr.sameBits 10000 e'.key (a.eval k)=true:=Hb aJ (h5 j _ e' aq Z) ad 9998
         have aB:(Instr.keyThatStays (((G[j]?).map (·.key)).getD (a.eval k)) (a.eval k)).run P w=.ok (a.eval k) w:=by
          rw[Z];show(Instr.keyThatStays e'.key (a.eval k)).run P w=_
          unfold Instr.keyThatStays;rw[ao];rfl
         refine step (G.modify j fun e=>{e with key:=a.eval k,val:=a.eval y}) I _ _ ?_ (by simpa using h3) (by simpa using h4) (fun q z e J D=>?_) (fun q z e J D=>?_) (aL.modify _ _ _)
         ·unfold Instr.mapUpdate;rw[Sem.run_bind,run_underlying aQ,Result.andThen_ok,hv];rw[aN]at aB⊢;simp only[Sem.run_bind,hg,Result.andThen_ok,rN af aw ag au,rO af h9,aB,al]
         ·rw[Array.getElem?_modify]at D;split at D
          ·rename_i hq;subst hq;rw[Z]at D;rw[aq]at J;cases D;cases J;exact ad
          ·exact h5 q z e J D
         ·rw[Array.getElem?_modify]at D;split at D
          ·rename_i hq;subst hq;rw[Z]at D;rw[List.getElem?_set_self (by rw[<- h4];exact(Array.getElem?_eq_some_iff.1 Z).1)]at J;cases D;cases J;exact hy
          ·rename_i hq;rw[List.getElem?_set_ne hq]at J;exact h6 q z e J D
        ·cases h
       ·cases h
     ·rename_i hf;cases h;rcases pE aM ag iW G.toList 0 _ (by simpa using h3.symm) (fun j x e hx D=>h5 j x e hx (by simpa using D)) hf with⟨_,h7⟩|⟨j',e',h7,_⟩
      ·refine step (G.push {key:=a.eval k,val:=a.eval y,born:=I}) (I+1) _ _ ?_ (by simp[h3]) (by simp[h4]) (fun q z e J D=>?_) (fun q z e J D=>?_) (aL.push _ _)
       ·unfold Instr.mapUpdate;rw[Sem.run_bind,run_underlying aQ,Result.andThen_ok,hv];rw[aN];simp only[Sem.run_bind,hg,Result.andThen_ok,rN af aw ag au,rO af h7,al]
       ·rw[Array.getElem?_push]at D;split at D
        ·rename_i hq;rw[hq,h3,List.getElem?_append_right (Nat.le_refl _),Nat.sub_self]at J;cases D;cases J;exact ad
        ·rename_i hq;have:=(Array.getElem?_eq_some_iff.1 D).1;rw[List.getElem?_append_left (by omega)]at J;exact h5 q z e J D
       ·rw[Array.getElem?_push]at D;split at D
        ·rename_i hq;rw[hq,h4,List.getElem?_append_right (Nat.le_refl _),Nat.sub_self]at J;cases D;cases J;exact hy
        ·rename_i hq;have:=(Array.getElem?_eq_some_iff.1 D).1;rw[List.getElem?_append_left (by omega)]at J;exact h6 q z e J D
      ·cases h7
   ·cases h
  ·cases h
def xG{t:Nat}{m k y:Operand}{op:Op}{x:SV}{fr':Fr}{ks:List Nat}(O:op=.insert t m k y\/op=.mapUpdate t m k y)(h:nq P fr t (rd env m) (rd env k) (rd env y)=some (x,fr',ks)):cj P γ env fr ⟨dst,op,ty,pos,after,g⟩ x fr' ks:=fun κ L a w hC af=>by
 have am:execOp a.eval ⟨dst,op,ty,pos,after,g⟩=(do Instr.mapUpdate t (a.eval m) (a.eval k) (a.eval y);pure .skip):=by rcases O with rfl|rfl <;>rfl
 have hm:=bG (af m (by rcases O with rfl|rfl <;>simp[Op.operands]));have hk:=bG (af k (by rcases O with rfl|rfl <;>simp[Op.operands]));have hy:=bG (af y (by rcases O with rfl|rfl <;>simp[Op.operands]));unfold nq at h;split at h
 ·exact Eh O h κ L a w hC af
 ·rename_i e d ht;obtain⟨kt,aw,ag,hl⟩:=uL ht;split at h
  ·rename_i i ka aM aL;rw[aM]at hm;rw[aL]at hk;have ad:VR (MA κ.M fr L) w ka (a.eval k):=by cases hk with|t _ _ h=>exact h
   split at h
   ·rename_i iW aN hi;split at h
    ·cases h
    ·rename_i hd;obtain⟨r,G,I,h1,h2,h3,h4,h5,h6,au⟩:=hC.blk i _ hi
     have hv:a.eval m=.map (some r):=by
      generalize a.eval m=z at hm
      cases hm with
      |lm _ r' hL=>rw[h1]at hL;cases hL;rfl
     have ak:=(Array.getElem?_eq_some_iff.1 h2).1;have hg:(getObj r).run P w=.ok (.map G I) w:=by simp[getObj,Sem.run,h2]
     have al:∀(V:Array MapEntry) (c:Nat),(setObj r (.map V c)).run P w=.ok () (dP w r (.map V c)):=fun V c=>by simp[setObj,Sem.run,h2,dP]
     have step:∀(V:Array MapEntry) (c:Nat) (Q:List AV) (U:List SV),(Instr.mapUpdate t (a.eval m) (a.eval k) (a.eval y)).run P w=.ok () (dP w r (.map V c))->V.size=Q.length->V.size=U.length->(∀(j:Nat) (x:AV) (e:MapEntry),Q[j]?=some x->V[j]?=some e->VR (MA κ.M fr L) w x e.key)->(∀(j:Nat) (x:SV) (e:MapEntry),U[j]?=some x->V[j]?=some e->SR (MA κ.M fr L) L w x e.val)->fk V c->
       cr P ⟨dst,op,ty,pos,after,g⟩ a w fun v w'=>∃L',Tr κ.M fr L w (fr.set i (.map false Q U)) L' w' []/\ar γ κ (fr.set i (.map false Q U)) L' w'/\SR (MA κ.M (fr.set i (.map false Q U)) L') L' w' .dead v:=fun V c Q U aq e1 e2 e3 e4 e5=>by
      obtain⟨aE,hT⟩:=hC.jZ (w':=dP w r (.map V c)) (ks:=[]) (v':=.map (some r)) (lb':=.map false Q U) hi rfl h1 (vD w r _) (.inl rfl) (fun b hb=>by cases hb;simp[dP];exact ak) (.inl rfl) (fun _=>rfl) fun hT=>⟨r,V,c,bP,vC ak,e1,e2,fun j x u hx hu=>hT.vr (e3 j x u hx hu),fun j x u hx hu=>by rw[sV h1]at hT⊢;exact hT.sr (e4 j x u hx hu),e5⟩;unfold cr;rw[am,Sem.run_bind,aq];exact⟨_,hT,aE,.dead _⟩
     split at h
     ·cases h
     ·rename_i j hf;cases h;rcases lY ad iW G.toList 0 _ (by simpa using h3.symm) (fun j x e hx D=>h5 j x e hx (by simpa using D)) hf with⟨h7,_⟩|⟨j',e',h7,h8,h9,x0,ao,aB⟩
      ·cases h7
      ·rw[Nat.zero_add]at h7 h9;cases h7;obtain rfl:=Db aB;have Z:G[j]?=some e':=by simpa using h8
       have an:=Ha hd (h5 j _ e' ao Z) ad 9999
       have aJ:(Instr.keyThatStays (((G[j]?).map (·.key)).getD (a.eval k)) (a.eval k)).run P w=.ok (a.eval k) w:=by
        rw[Z];show(Instr.keyThatStays e'.key (a.eval k)).run P w=_
        unfold Instr.keyThatStays;rw[an];rfl
       refine step (G.modify j fun e=>{e with key:=a.eval k,val:=a.eval y}) I _ _ ?_ (by simpa using h3) (by simpa using h4) (fun q z e J D=>?_) (fun q z e J D=>?_) (au.modify _ _ _)
       ·unfold Instr.mapUpdate;rw[Sem.run_bind,run_underlying aw,Result.andThen_ok,hv];simp only[Sem.run_bind,hg,Result.andThen_ok,run_checkKey ag hl,run_findKey ag h9,aJ,al]
       ·rw[Array.getElem?_modify]at D;split at D
        ·rename_i hq;subst hq;rw[Z]at D;rw[ao]at J;cases D;cases J;exact ad
        ·exact h5 q z e J D
       ·rw[Array.getElem?_modify]at D;split at D
        ·rename_i hq;subst hq;rw[Z]at D;rw[List.getElem?_set_self (by rw[<- h4];exact(Array.getElem?_eq_some_iff.1 Z).1)]at J;cases D;cases J;exact hy
        ·rename_i hq;rw[List.getElem?_set_ne hq]at J;exact h6 q z e J D
     ·rename_i hf;cases h;rcases lY ad iW G.toList 0 _ (by simpa using h3.symm) (fun j x e hx D=>h5 j x e hx (by simpa using D)) hf with⟨_,h7⟩|⟨j',e',h7,_⟩
      ·refine step (G.push {key:=a.eval k,val:=a.eval y,born:=I}) (I+1) _ _ ?_ (by simp[h3]) (by simp[h4]) (fun q z e J D=>?_) (fun q z e J D=>?_) (au.push _ _)
       ·unfold Instr.mapUpdate;rw[Sem.run_bind,run_underlying aw,Result.andThen_ok,hv];simp only[Sem.run_bind,hg,Result.andThen_ok,run_checkKey ag hl,run_findKey ag h7,al]
       ·rw[Array.getElem?_push]at D;split at D
        ·rename_i hq;rw[hq,h3,List.getElem?_append_right (Nat.le_refl _),Nat.sub_self]at J;cases D;cases J;exact ad
        ·rename_i hq;have:=(Array.getElem?_eq_some_iff.1 D).1;rw[List.getElem?_append_left (by omega)]at J;exact h5 q z e J D
       ·rw[Array.getElem?_push]at D;split at D
        ·rename_i hq;rw[hq,h4,List.getElem?_append_right (Nat.le_refl _),Nat.sub_self]at J;cases D;cases J;exact hy
        ·rename_i hq;have:=(Array.getElem?_eq_some_iff.1 D).1;rw[List.getElem?_append_left (by omega)]at J;exact h6 q z e J D
      ·cases h7
   ·cases h
  ·cases h
def pQ(es:Array MapEntry)(j:Nat):(es.eraseIdxIfInBounds j).toList=es.toList.eraseIdx j:=by
 unfold Array.eraseIdxIfInBounds;split
 ·simp
 ·rename_i h;rw[List.eraseIdx_of_length_le (by simpa using h)]
def fk.erase{es:Array MapEntry}{u:Nat}(h:fk es u)(j:Nat):fk (es.eraseIdxIfInBounds j) u where
 up:=by
  rw[pQ];exact h.up.sublist ((List.eraseIdx_sublist es.toList j).map _)
 lt:=fun e v=>by
  rw[pQ]at v;exact h.lt e (List.mem_of_mem_eraseIdx v)
def w_{es:Array MapEntry}{j q:Nat}{e:MapEntry}(h:(es.eraseIdxIfInBounds j)[q]?=some e):if q <j then es[q]?=some e else es[q+1]?=some e:=by
 rw[<- Array.getElem?_toList,pQ,List.getElem?_eraseIdx]at h;split at h <;>rename_i u
 ·rw[if_pos u];simpa using h
 ·rw[if_neg u];simpa using h
def xa{α:Type}{xs:List α}{j q:Nat}{x:α}(h:(xs.eraseIdx j)[q]?=some x):if q <j then xs[q]?=some x else xs[q+1]?=some x:=by
 rw[List.getElem?_eraseIdx]at h;split at h <;>rename_i u
 ·rw[if_pos u];exact h
 ·rw[if_neg u];exact h
def xh{m k:Operand}{t u:Nat}{tys:Array TypeId}{args:Array Operand}{a:Act}{w w':World}(v:args.toList=[m,k])(y:tys.toList=[t,u])(h:(Builtin.delete_ #[t,u] ty #[a.eval m,a.eval k]).run P w=.ok (.tuple #[]) w'):(execOp a.eval ⟨dst,.call ⟨.builtin .delete,args,tys⟩,ty,pos,after,g⟩).run P w=.ok (.value (.tuple #[])) w':=by
 obtain⟨args⟩:=args;obtain⟨tys⟩:=tys;simp only at v y;subst v y;simp only[execOp,resolve,invoke,builtin,Sem.run_bind,Sem.run_pure,Result.andThen_ok,List.map_toArray,List.map_cons,List.map_nil,h]
def CZ{m k:Operand}{t u:Nat}{args:Array Operand}{tys:Array TypeId}{x:SV}{fr':Fr}{ks:List Nat}(D:args.toList=[m,k])(V:tys.toList=[t,u])(h:tF P fr t (rd env m) (rd env k)=some (x,fr',ks)):
  cj P γ env fr ⟨dst,.call ⟨.builtin .delete,args,tys⟩,ty,pos,after,g⟩ x fr' ks:=fun κ L a w hC af=>by
 have hm:=bG (af m (by simp[Op.operands,Call.operands,<- Array.mem_toList_iff,D]));have hk:=bG (af k (by simp[Op.operands,Call.operands,<- Array.mem_toList_iff,D]));unfold tF at h;split at h
 ·cases h
 ·rename_i e d ht;obtain⟨kt,ag,J,hl⟩:=uL ht;split at h
  ·rename_i i ka am al;rw[am]at hm;rw[al]at hk;have ad:VR (MA κ.M fr L) w ka (a.eval k):=by cases hk with|t _ _ h=>exact h
   split at h
   ·rename_i iW ao hi;obtain⟨r,y,v,h1,h2,h3,h4,h5,h6,an⟩:=hC.blk i _ hi
    have hv:a.eval m=.map (some r):=by
     generalize a.eval m=z at hm
     cases hm with
     |lm _ r' hL=>rw[h1]at hL;cases hL;rfl
    have Q:=(Array.getElem?_eq_some_iff.1 h2).1;have hg:(getObj r).run P w=.ok (.map y v) w:=by simp[getObj,Sem.run,h2]
    have U:∀(es:Array MapEntry) (c:Nat),(setObj r (.map es c)).run P w=.ok () (dP w r (.map es c)):=fun es c=>by simp[setObj,Sem.run,h2,dP]
    split at h
    ·cases h
    ·rename_i j hf;cases h;rcases lY ad iW y.toList 0 _ (by simpa using h3.symm) (fun j x e G he=>h5 j x e G (by simpa using he)) hf with⟨O,_⟩|⟨j',e',O,h8,h9,x0,aq,au⟩
     ·cases O
     ·rw[Nat.zero_add]at O h9;cases O
      have aw:j <y.size:=by
       have:=aC h8;simpa using this
      obtain⟨ak,Z⟩:=hC.jZ (w':=dP w r (.map (y.eraseIdxIfInBounds j) v)) (ks:=[]) (v':=.map (some r)) (lb':=.map false (iW.eraseIdx j) (ao.eraseIdx j)) hi rfl h1 (vD w r _) (.inl rfl) (fun b hb=>by cases hb;simp[dP];exact Q) (.inl rfl) (fun _=>rfl) fun Z=>⟨r,_,v,bP,vC Q,by rw[<- Array.length_toList,pQ,List.length_eraseIdx,List.length_eraseIdx];simp[h3],by rw[<- Array.length_toList,pQ,List.length_eraseIdx,List.length_eraseIdx];simp[h4],fun q x u G I=>by
        have G:=xa G;have I:=w_ I;by_cases hq:q <j
        ·rw[if_pos hq]at G I;exact Z.vr (h5 _ x u G I)
        ·rw[if_neg hq]at G I;exact Z.vr (h5 _ x u G I),fun q x u G I=>by
        rw[sV h1]at Z⊢;have G:=xa G;have I:=w_ I;by_cases hq:q <j
        ·rw[if_pos hq]at G I;exact Z.sr (h6 _ x u G I)
        ·rw[if_neg hq]at G I;exact Z.sr (h6 _ x u G I),an.erase j⟩
      refine .gb (xh D V (w':=dP w r (.map (y.eraseIdxIfInBounds j) v)) ?_) ⟨_,Z,ak,.dead _⟩;unfold Builtin.delete_;rw[hv];simp only[List.getElem?_toArray,List.getElem?_cons_zero,List.getElem?_cons_succ,Sem.run_bind,run_underlying ag,Result.andThen_ok,hg,run_checkKey J hl,run_findKey J h9,U,Sem.run_pure]
    ·rename_i hf;cases h;rcases lY ad iW y.toList 0 _ (by simpa using h3.symm) (fun j x e G he=>h5 j x e G (by simpa using he)) hf with⟨_,O⟩|⟨j',e',O,_⟩
     ·have hw:dP w r (.map y v)=w:=by
       have:w.heap.setIfInBounds r (.map y v)=w.heap:=by
        apply Array.ext_getElem?;intro q;rw[Array.getElem?_setIfInBounds];split
        ·rename_i hq;subst hq;exact h2.symm
        ·rfl
       unfold dP;rw[this]
      refine .gb (xh D V (w':=w) ?_) ⟨L,Tr.refl,hC,.dead _⟩;unfold Builtin.delete_;rw[hv];simp only[List.getElem?_toArray,List.getElem?_cons_zero,List.getElem?_cons_succ,Sem.run_bind,run_underlying ag,Result.andThen_ok,hg,run_checkKey J hl,run_findKey J O,U,hw,Sem.run_pure]
     ·cases O
   ·cases h
  ·cases h
def bA.lay{A:Nat->Prop}{w:World}{sz a:Nat}{es zs:List (List AV)}{us zu:List Value}(h:bA A w sz es us)(J:us.length=es.length*sz)(hz:bA A w sz zs zu)(O:zu.length=zs.length*sz)(I:a+zs.length<=es.length):
  bA A w sz (es.take a++zs++es.drop (a+zs.length)) (dM us (a*sz) zu):=by
 have D:∀(k:Nat) (u:List AV),(es.take a++zs++es.drop (a+zs.length))[k]?=some u->(k <a/\es[k]?=some u)\/(a<=k/\k <a+zs.length/\zs[k - a]?=some u)\/(a+zs.length<=k/\es[k]?=some u):=fun k u v=>by
  have y:(es.take a).length=a:=by rw[List.length_take];omega
  rw[List.getElem?_append]at v;split at v
  ·rename_i h1;rw[List.length_append,y]at h1;rw[List.getElem?_append]at v;split at v
   ·rename_i h2;rw[y]at h2;rw[List.getElem?_take,if_pos h2]at v;exact .inl ⟨h2,v⟩
   ·rename_i h2;rw[y]at h2 v;exact .inr (.inl ⟨by omega,h1,v⟩)
  ·rename_i h1;rw[List.length_append,y]at h1 v;rw[List.getElem?_drop]at v;exact .inr (.inr ⟨by omega,by rwa[show a+zs.length+(k - (a+zs.length))=k by omega]at v⟩)
 have Q:a*sz+zs.length*sz<=us.length:=by rw[J,<- Nat.add_mul];exact Nat.mul_le_mul_right _ I
 refine⟨fun k u v=>?_,fun k j u x v z=>?_⟩
 ·rcases D k u v with⟨_,h2⟩|⟨_,_,h2⟩|⟨_,h2⟩
  ·exact h.1 k u h2
  ·exact hz.1 _ u h2
  ·exact h.1 k u h2
 ·rw[u4 _ _ _ _ (by omega),O];rcases D k u v with⟨h1,h2⟩|⟨h1,h2,h3⟩|⟨h1,h2⟩
  ·have G:j <sz:=by rw[<- h.1 k u h2];exact aC z
   have:(k+1)*sz<=a*sz:=Nat.mul_le_mul_right _ h1;rw[Nat.add_mul]at this;rw[if_neg (by omega)];exact h.2 k j u x h2 z
  ·have G:j <sz:=by rw[<- hz.1 _ u h3];exact aC z
   obtain⟨q,rfl⟩:∃q,k=a+q:=⟨k - a,by omega⟩;rw[Nat.add_sub_cancel_left]at h3;have:(q+1)*sz<=zs.length*sz:=Nat.mul_le_mul_right _ (by omega);rw[Nat.add_mul]at this;rw[Nat.add_mul,if_pos (by omega),show a*sz+q*sz+j - a*sz=q*sz+j by omega];exact hz.2 q j u x h3 z
  ·have G:j <sz:=by rw[<- h.1 k u h2];exact aC z
   have:(a+zs.length)*sz<=k*sz:=Nat.mul_le_mul_right _ h1;rw[Nat.add_mul]at this;rw[if_neg (by omega)];exact h.2 k j u x h2 z
def xg{x y:Operand}{t u n:Nat}{tys:Array TypeId}{args:Array Operand}{a:Act}{w w':World}(v:args.toList=[x,y])(z:tys.toList=[t,u])(h:(Builtin.copy_ #[t,u] ty #[a.eval x,a.eval y]).run P w=.ok (.int .i64 (n:Int)) w'):(execOp a.eval ⟨dst,.call ⟨.builtin .copy,args,tys⟩,ty,pos,after,g⟩).run P w=.ok (.value (.int .i64 (n:Int))) w':=by
 obtain⟨args⟩:=args;obtain⟨tys⟩:=tys;simp only at v z;subst v z;simp only[execOp,resolve,invoke,builtin,Sem.run_bind,Sem.run_pure,Result.andThen_ok,List.map_toArray,List.map_cons,List.map_nil,h]
def CT{x y:Operand}{t u:Nat}{args:Array Operand}{tys:Array TypeId}{s:SV}{fr':Fr}{ks:List Nat}(G:args.toList=[x,y])(aw:tys.toList=[t,u])(h:qq P fr t (rd env x) (rd env y)=some (s,fr',ks)):
  cj P γ env fr ⟨dst,.call ⟨.builtin .copy,args,tys⟩,ty,pos,after,g⟩ s fr' ks:=by
 have bk:x∈(Op.call ⟨.builtin .copy,args,tys⟩).operands:=by simp[Op.operands,Call.operands,<- Array.mem_toList_iff,G]
 have bl:y∈(Op.call ⟨.builtin .copy,args,tys⟩).operands:=by simp[Op.operands,Call.operands,<- Array.mem_toList_iff,G]
 unfold qq at h;split at h
 ·cases h
 ·rename_i e sz b3 ht;obtain⟨i,z,hu,hi,hz,rfl,rfl,cd,aq⟩:=pD ht;split at h
  ·cases h
  ·rename_i zs a_;split at h
   ·cases h
   ·rename_i aY
    have row:∀(r sz Z n:Nat),sz=i.size->mW fr zs r sz Z n=some (s,fr',ks)->(∀(κ:Ctx) (L:Ls) (w:World) (v:Value),ar γ κ fr L w->SR (MA κ.M fr L) L w (rd env x) v->∃q b m c c',L r=some (.slice q m c)/\(n≠0->q=some ⟨b,0,none⟩/\v=.slice (some ⟨b,Z*sz,none⟩) n c')/\(n=0->∃q,v=.slice q 0 c'))->cj P γ env fr ⟨dst,.call ⟨.builtin .copy,args,tys⟩,ty,pos,after,g⟩ s fr' ks:=fun r sz Z n bN D hv=>by
     subst bN;unfold mW at D;split at D
     ·rename_i bb b1 U hb;split at D
      ·rename_i hc;rw[Bool.and_eq_true,Nat.ble_eq]at hc;obtain rfl:i.size=b1:=by simpa using hc.1
       cases D;intro κ L a w hC a1;obtain⟨q,b,m,c,c',hL,a6,bW⟩:=hv κ L w _ hC (bG (a1 x bk));obtain⟨q2,c2,V,e1,e2,e3,e4,e5⟩:=rn hC aq a_ (bG (a1 y bl)) aY;obtain⟨T,us,I,an,⟨q0,c0,aE⟩,aU,aQ⟩:=dO hC hb hL;cases aE
       have au:∀{dv:Value} {q':Option Addr} {cc:Nat} {w':World},dv=.slice q' n cc->(∀(bs:Array Value),bs.toList=V.take (Nat.min zs.length n*i.size)->(match q' with|some ad=>(storeCells ad bs.toList).run P w=.ok () w'|none=>w'=w))->(Builtin.copy_ #[t,u] ty #[dv,a.eval y]).run P w=.ok (.int .i64 ((Nat.min zs.length n:Nat):Int)) w':=fun{dv q' cc w'} af bM=>by
        rw[e1,af]
        have aJ:∃bs:Array Value,bs.toList=V.take (Nat.min zs.length n*i.size)/\(Builtin.firstCells i.size (Nat.min zs.length n) (.slice q2 zs.length c2)).run P w=.ok bs w:=by
         have Q:(V.take (Nat.min zs.length n*i.size)).length=Nat.min zs.length n*i.size:=by
          rw[List.length_take,e3];exact Nat.min_eq_left (Nat.mul_le_mul_right _ (Nat.min_le_left _ _))
         rcases Nat.eq_zero_or_pos V.length with J|J
         ·have h1:Nat.min zs.length n*i.size=0:=by
           have:zs.length=0:=by
            rcases Nat.eq_zero_or_pos zs.length with h|h
            ·exact h
            ·have:=Nat.mul_pos h aq;omega
           rw[this];simp[Nat.min_def]
          refine⟨#[],by rw[h1];simp,?_⟩
          cases q2 with
          |none=>simp[Builtin.firstCells,pure,Sem.run]
          |some ad=>simp[Builtin.firstCells,h1,loadCells,loadCellsFrom,pure,Sem.run]
         ·obtain⟨b2,o2,rfl,_,aB⟩:=e2 J;refine⟨(V.take (Nat.min zs.length n*i.size)).toArray,by simp,?_⟩
          exact run_firstCells_some (P:=P) w i.size (Nat.min zs.length n) ⟨b2,o2,none⟩ zs.length c2 _ Q fun j v hj=>by
           rw[List.getElem?_take]at hj;split at hj
           ·rw[addr_add];exact aB j v hj
           ·cases hj
        obtain⟨bs,O,ak⟩:=aJ;have:=bM bs O;unfold Builtin.copy_;simp only[List.getElem?_toArray,List.getElem?_cons_zero,List.getElem?_cons_succ,Sem.run_bind,run_underlying hu,Result.andThen_ok,Builtin.lenOf,Sem.run_pure,gS hi,ak]
        cases q' with
        |none=>simp only at this;subst this;rfl
        |some ad=>simp only[Sem.run_bind,this,Result.andThen_ok];rfl
       rcases Nat.eq_zero_or_pos (Nat.min zs.length n)with J|J
       ·have e0:zs.take n=[]:=by
         apply List.eq_nil_of_length_eq_zero;rw[List.length_take];simpa[Nat.min_comm]using J
        have e6:U.take Z++zs.take n++U.drop (Z+Nat.min zs.length n)=U:=by rw[e0,J];simp
        have af:∃q' cc,a.eval x=.slice q' n cc:=by
         rcases Nat.eq_zero_or_pos n with hn|hn
         ·subst hn;obtain⟨q',e'⟩:=bW rfl;exact⟨q',_,e'⟩
         ·obtain⟨_,e'⟩:=a6 (by omega);exact⟨_,_,e'⟩
        obtain⟨q',cc,af⟩:=af;rw[e6,vE hb];refine .gb (xg (n:=Nat.min zs.length n) G aw (w':=w) (au af (fun bs O=>?_))) ⟨L,Tr.refl,hC,.t _ _ (.int _ _)⟩;rw[J]at O;simp only[Nat.zero_mul,List.take_zero]at O
        cases q' with
        |none=>rfl
        |some ad=>rw[O];rfl
       ·have bq:n≠0:=by
         intro hn;subst hn;simp at J
        obtain⟨rfl,be⟩:=a6 bq;have I:=I.own (by omega);obtain⟨vs,am⟩:∃vs,V.take (Nat.min zs.length n*i.size)=vs:=⟨_,rfl⟩;have Q:(zs.take n).length=Nat.min zs.length n:=by rw[List.length_take];exact Nat.min_comm _ _
        have a7:vs.length=(zs.take n).length*i.size:=by
         rw[<- am,List.length_take,e3,Q];exact Nat.min_eq_left (Nat.mul_le_mul_right _ (Nat.min_le_left _ _))
        have al:∀u∈vs,de u=true:=fun u hu=>e4 u (List.mem_of_mem_take (by rw[am];exact hu));have b5:Nat.min zs.length n<=n:=Nat.min_le_right _ _
        have bj:Z*i.size+vs.length<=us.length:=by
         rw[a7,Q,I.1,<- Nat.add_mul];exact Nat.mul_le_mul_right _ (by omega)
        obtain⟨w',ak,ao,hg⟩:=uX I (q:=Z*i.size) (vs:=vs) bj al P
        have aN:∃c1,c=c1+1:=by
         rcases I.2 with⟨e,_⟩|⟨g,cap,aM,e,_,_,ca,_⟩
         ·cases e
         ·cases e;exact⟨c - 1,by omega⟩
        obtain⟨c,rfl⟩:=aN
        have aL:bA (MA κ.M fr L) w i.size (zs.take n) vs:=by
         have hk:=e5.take (Nat.min zs.length n);rw[am]at hk
         have:zs.take (Nat.min zs.length n)=zs.take n:=by
          rcases Nat.le_total zs.length n with hl|hl
          ·rw[show Nat.min zs.length n=zs.length from Nat.min_eq_left hl,List.take_length,List.take_of_length_le hl]
          ·rw[show Nat.min zs.length n=n from Nat.min_eq_right hl]
         rwa[this]at hk
        have ag:=bA.lay (a:=Z) (zs:=zs.take n) (zu:=vs) ⟨aU,aQ⟩ I.1 aL a7 (by rw[Q];omega);rw[Q]at ag
        have aV:(U.take Z++zs.take n++U.drop (Z+Nat.min zs.length n)).length=U.length:=by
         rw[List.length_append,List.length_append,Q,List.length_take,List.length_drop];omega
        obtain⟨bd,hT⟩:=hC.jZ (w':=w') (ks:=[]) (v':=.slice (some ⟨b,0,none⟩) U.length (c+1)) (lb':=.row false bb i.size (U.take Z++zs.take n++U.drop (Z+Nat.min zs.length n))) hb rfl hL hg (.inl rfl) (fun b' bf=>by
          cases bf;rcases ao.2 with⟨e,_⟩|⟨g,cap,aM,e,_,bh,_⟩
          ·cases e
          ·cases e;exact(Array.getElem?_eq_some_iff.1 bh).1) (.inl rfl) (fun h=>h) fun hT=>by
         refine⟨T,_,_,bP,.inr (by rw[aV];exact ao),by rw[aV];exact an,ag.1,fun q p bc y hq hp=>?_⟩;obtain⟨u,e1,e2⟩:=ag.2 q p bc y hq hp;exact⟨u,e1,hT.vr e2⟩
        refine .gb (xg (n:=Nat.min zs.length n) G aw (w':=w') (au be (fun bs O=>?_))) ⟨_,hT,bd,.t _ _ (.int _ _)⟩;simp only;rw[O,am];exact ak
      ·cases D
     ·cases D
    split at h
    ·rename_i r sz a n hs;split at h
     ·rename_i b0;obtain rfl:sz=i.size:=by simpa using b0
      exact row r i.size a n rfl h fun κ L w v hC hv=>by
       rw[hs]at hv;obtain⟨b,m,c,hL,rfl⟩:=jD hv;exact⟨_,b,m,c,c - a,hL,fun _=>⟨rfl,rfl⟩,fun J=>by subst J;exact⟨_,rfl⟩⟩
     ·cases h
    ·rename_i r hs;split at h
     ·rename_i ro bb sz U hb
      exact row r i.size 0 U.length rfl h fun κ L w v hC hv=>by
       rw[hs]at hv;obtain⟨hL,_⟩:=iu hv;obtain⟨T,us,I,an,⟨q,c,rfl⟩,aU,aQ⟩:=dO hC hb hL;rcases Nat.eq_zero_or_pos U.length with J|J
       ·exact⟨q,0,U.length,c,c,hL,fun h=>absurd J h,fun _=>⟨q,by rw[J]⟩⟩
       ·rcases(I.own J).2 with⟨e,hz⟩|⟨b,cap,aM,e,_⟩
        ·omega
        ·cases e;exact⟨_,b,U.length,c,c,hL,fun _=>⟨rfl,by rw[Nat.zero_mul]⟩,fun b4=>by omega⟩
     ·cases h
    ·cases h
end
theorem oT:∀(l u:List Nat),u.Nodup->(bR u l).Nodup
 |[],u,h=>h
 |i::r,u,h=>by
  unfold bR;split
  ·exact oT r u h
  ·rename_i z;refine oT r _ ?_;rw[List.nodup_append];refine⟨h,by simp,fun a y b v=>?_⟩;simp at v;subst v;intro e;subst e;exact dJ.1 z y
theorem tn(fr:Fr):∀(n:Nat) (l:List Nat),l.Nodup->(close fr n l).Nodup
 |0,l,h=>h
 |n+1,l,h=>tn fr n _ (oT _ _ h)
theorem qJ{fr:Fr}:∀{l:List Nat} {bs:Fr},cJ fr l=some bs->bs.length=l.length/\∀(j i:Nat),l[j]?=some i->∃b,fr[i]?=some b/\bs[j]?=some b
 |[],bs,h=>by unfold cJ at h;cases h;exact⟨rfl,fun j i h=>by simp at h⟩
 |k::r,bs,h=>by
  unfold cJ at h;split at h
  ·cases h
  ·rename_i b y;split at h
   ·cases h
   ·rename_i l z;cases h;obtain⟨h1,h2⟩:=qJ z;refine⟨by simp[h1],fun j i u=>?_⟩
    cases j with
    |zero=>cases u;exact⟨b,y,rfl⟩
    |succ j=>
     obtain⟨v,h3,h4⟩:=h2 j i (by simpa using u);exact⟨v,h3,by simpa using h4⟩
def qO{l:List Nat}{i j:Nat}(h:aT l i=some j):l[j]?=some i:=by
 unfold aT at h;obtain⟨v,u,_⟩:=List.findIdx?_eq_some_iff_getElem.1 h;rw[List.getElem?_eq_getElem v];rw[Nat.beq_eq]at u;rw[u]
def uy{l:List Nat}{i j:Nat}(hn:l.Nodup)(h:l[j]?=some i):aT l i=some j:=by
 unfold aT;rw[List.findIdx?_eq_some_iff_getElem];obtain⟨u,v⟩:=List.getElem?_eq_some_iff.1 h;refine⟨u,by rw[v];simp,fun k y=>?_⟩;rw[Bool.not_eq_true];rw[<- Bool.not_eq_true,Nat.beq_eq];intro e;have h1:l[k]'(by omega)=l[j]:=by rw[v];exact e.symm
 exact(List.pairwise_iff_getElem.1 hn) k j (by omega) u y h1
def rv{l:List Nat}{j k i:Nat}(hn:l.Nodup)(hj:l[j]?=some i)(hk:l[k]?=some i):j=k:=by
 have h1:=uy hn hj;have h2:=uy hn hk;rw[h1]at h2;exact Option.some.inj h2
def vY(b:Lb):(b6 b).ro=b.ro:=by cases b <;>rfl
def td{σ:Nat->Option Nat}{b u:Lb}(h:fM σ b u):fM σ b (b6 u):=by
 cases b <;>cases u <;>first|exact h.elim|exact h
def BP{σ:Nat->Option Nat}{o:Option Lb}{b u:Lb}(h:fM σ b u):fM σ b (kD o u):=by
 unfold kD;split
 ·cases b <;>first|exact h.elim|exact h
 ·exact h
def FT(o:Option Lb)(b:Lb):(kD o b).ro=b.ro:=by
 unfold kD;split <;>rfl
theorem nv(τ:Nat->Option Nat):∀(hs:List Nat) (bs fr:Fr),(kq τ hs bs fr).length=fr.length
 |[],_,_=>rfl
 |_::_,[],_=>rfl
 |i::hs,b::bs,fr=>by rw[kq,nv τ hs bs];simp
theorem uF(τ:Nat->Option Nat):∀(hs:List Nat) (bs fr:Fr) (i:Nat),i∉hs->(kq τ hs bs fr)[i]?=fr[i]?
 |[],_,_,_,_=>rfl
 |_::_,[],_,_,_=>rfl
 |k::hs,b::bs,fr,i,h=>by
  simp only[List.mem_cons,not_or]at h;rw[kq,uF τ hs bs _ i h.2,List.getElem?_set_ne (Ne.symm h.1)]
theorem xU(τ:Nat->Option Nat):∀(hs:List Nat) (bs fr:Fr) (j i:Nat) (b:Lb),hs.Nodup->hs[j]?=some i->bs[j]?=some b->i <fr.length->(kq τ hs bs fr)[i]?=some (kD fr[i]? (b.sub τ))
 |[],_,_,j,_,_,_,h,_,_=>by simp at h
 |_::_,[],_,j,_,_,_,_,h,_=>by simp at h
 |k::hs,c::bs,fr,j,i,b,v,G,z,D=>by
  rw[List.nodup_cons]at v;rw[kq]
  cases j with
  |zero=>
   cases G;cases z;rw[uF τ hs bs _ k v.1,List.getElem?_set_self D]
  |succ j=>
   have u:hs[j]?=some i:=by simpa using G
   have y:k≠i:=fun e=>by subst e;exact v.1 (List.mem_of_getElem? u)
   rw[xU τ hs bs _ j i b v.2 u (by simpa using z) (by rw[List.length_set];exact D),List.getElem?_set_ne y]
theorem AE:∀{hs:List Nat} {bs:Fr} {j i:Nat} {b:Lb},hs[j]?=some i->bs[j]?=some b->b.tch=true->i∈cA hs bs
 |[],_,j,_,_,h,_,_=>by simp at h
 |_::_,[],j,_,_,_,h,_=>by simp at h
 |k::hs,c::bs,j,i,b,v,u,y=>by
  unfold cA
  cases j with
  |zero=>cases v;cases u;rw[y];simp
  |succ j=>
   have:=AE (hs:=hs) (bs:=bs) (j:=j) (by simpa using v) (by simpa using u) y;split
   ·exact List.mem_cons_of_mem _ this
   ·exact this
theorem xR:∀{hs:List Nat} {bs fr:Fr} {j i:Nat} {b:Lb} {ro:Bool} {sz:Nat} {es:List (List AV)},kindOk hs bs fr=true->hs[j]?=some i->bs[j]?=some b->fr[i]?=some (.row ro true sz es)->∃z u D y,b=.row z u D y
 |[],_,_,j,_,_,_,_,_,_,h,_,_=>by simp at h
 |_::_,[],_,j,_,_,_,_,_,_,_,h,_=>by simp at h
 |k::hs,c::bs,fr,j,i,b,ro,sz,es,v,J,G,I=>by
  unfold kindOk at v;rw[Bool.and_eq_true]at v
  cases j with
  |zero=>
   cases J;cases G;have:=v.1;rw[I]at this
   cases c with
   |row a O c d=>exact⟨a,O,c,d,rfl⟩
   |box=>cases this
   |map=>cases this
   |own=>cases this
  |succ j=>exact xR v.2 (by simpa using J) (by simpa using G) I
def bv(κ:Ctx)(fr1:Fr)(L:Ls)(w:World)(hs:List Nat):Ctx where
 M:=fun b=>MA κ.M fr1 L b\/w.heap.size<=b\/∃i∈hs,∃v,L i=some v/\Bk v b
 X:=fun b=>∃i∈hs,∃v u,L i=some v/\Bk v b/\fr1[i]?=some u/\u.ro=false
 H:=fun b=>∃i∈hs,∃v,L i=some v/\Bk v b
 W:=w
 L:=fun j=>(hs[j]?).bind L
section
variable {γ:Glob} {κ:Ctx} {fr1 fr':Fr} {L L':Ls} {w w':World} {hs:List Nat} {bs:Fr}
def ar.handed(J:ar γ κ fr1 L w)(hn:hs.Nodup)(hb:cJ fr1 hs=some bs):ar γ (bv κ fr1 L w hs) (bs.map fun b=>b6 (b.sub (aT hs))) (bv κ fr1 L w hs).L w/\(∀b,MA κ.M fr1 L b->MA (bv κ fr1 L w hs).M (bs.map fun b=>b6 (b.sub (aT hs))) (bv κ fr1 L w hs).L b)/\
  ∀x v,SR (MA κ.M fr1 L) L w x v->SR (MA (bv κ fr1 L w hs).M (bs.map fun b=>b6 (b.sub (aT hs))) (bv κ fr1 L w hs).L) (bv κ fr1 L w hs).L w (x.sub (aT hs)) v:=by
 obtain⟨ag,af⟩:=qJ hb
 have G:∀(j:Nat) (u:Lb),(bs.map fun b=>b6 (b.sub (aT hs)))[j]?=some u->∃(i:Nat) (D:Lb),hs[j]?=some i/\fr1[i]?=some D/\u=b6 (D.sub (aT hs)):=fun j u h=>by
  rw[List.getElem?_map]at h
  cases O:bs[j]? with
  |none=>rw[O]at h;cases h
  |some D=>
   rw[O]at h;cases h;obtain⟨i,y⟩:=av (xs:=hs) (k:=j) (by rw[<- ag];exact aC O);obtain⟨b,h1,h2⟩:=af j i y;rw[O]at h2;cases h2;exact⟨i,D,y,h1,rfl⟩
 have V:∀j v,(bv κ fr1 L w hs).L j=some v->∃i,hs[j]?=some i/\L i=some v:=fun j v h=>by
  cases hj:hs[j]? with
  |none=>simp[bv,hj]at h
  |some i=>exact⟨i,rfl,by simpa[bv,hj]using h⟩
 have ad:∀i j v,aT hs i=some j->L i=some v->(bv κ fr1 L w hs).L j=some v:=fun i j v h1 h2=>by
  have:=qO h1;simp[bv,this,h2]
 have hO:∀b,Own (bs.map fun b=>b6 (b.sub (aT hs))) (bv κ fr1 L w hs).L b->Own fr1 L b:=fun b ⟨j,v,u,h1,h2,h3,h4⟩=>by
  obtain⟨i,y,h1⟩:=V j v h1;obtain⟨i',D,z,Q,rfl⟩:=G j u h3;rw[y]at z;cases z;rw[vY,Lb.lu]at h4;exact⟨i,v,D,h1,h2,Q,h4⟩
 have U:∀b,MA κ.M fr1 L b->MA (bv κ fr1 L w hs).M (bs.map fun b=>b6 (b.sub (aT hs))) (bv κ fr1 L w hs).L b:=fun b Z=>⟨.inl Z,fun h=>Z.2 (hO b h)⟩;refine⟨⟨J.bN,Nat.le_trans J.gn J.size,fun b hx=>?_,fun b hb=>.inr (.inl hb),rfl,rfl,rfl,Nat.le_refl _,fun _ _ _=>rfl,fun j v h=>?_,fun j v b u h1 h2 h3=>?_,fun j k v v' b h1 h2 h3 h4=>?_,fun j v h=>?_,fun j u h=>?_⟩,U,fun x v hv=>SR.sub _ (Nat.le_refl _) (fun b _ Z=>⟨U b Z,rfl⟩) ad hv⟩
 ·obtain⟨i,_,v,D,h1,h2,h3,h4⟩:=hx;obtain⟨a1,_,a3⟩:=J.own ⟨i,v,D,h1,h2,h3,h4⟩;refine⟨?_,a1⟩;rcases a3 with h|h
  ·exact Nat.le_trans J.gn h
  ·exact(J.gx b h).1
 ·obtain⟨i,y,_⟩:=V j v h;rw[List.length_map,ag];exact aC y
 ·obtain⟨i,y,h1⟩:=V j v h1;obtain⟨i',D,z,Q,rfl⟩:=G j u h3;rw[y]at z;cases z;have I:=List.mem_of_getElem? y;refine⟨(J.new i v b D h1 h2 Q).1,.inr (.inr ⟨i,I,v,h1,h2⟩),.inr ⟨i,I,v,h1,h2⟩,fun hr=>.inr ⟨i,I,v,D,h1,h2,Q,?_⟩⟩;rw[vY,Lb.lu]at hr;exact hr
 ·obtain⟨i,y,h1⟩:=V j v h1;obtain⟨i',z,h2⟩:=V k v' h2;have:=J.bW i i' v v' b h1 h2 h3 h4;subst this;exact rv hn y z
 ·obtain⟨i,y,h1⟩:=V j v h;obtain⟨D,Q,h6⟩:=af j i y;exact⟨b6 (D.sub (aT hs)),by rw[List.getElem?_map,h6];rfl,fun _=>h⟩
 ·obtain⟨i,D,y,Q,rfl⟩:=G j u h;refine l9 (i:=i) (σ:=aT hs) (Nat.le_refl _) (fun b _ Z=>⟨U b Z,rfl⟩) ad (fun v hv=>?_) (fun _ _ _ _=>rfl) (fun _ _ _ _ _ _ h=>h) (td (kR _ _)) (J.blk i D Q);simp[bv,y,hv]
def dV(hs:List Nat)(n:Nat)(L L':Ls):Ls:=fun i=>match aT hs i with
 |some j=>L' j
 |none=>if i <n then L i else L' (hs.length+(i - n))
theorem ar.back(G:ar γ κ fr1 L w)(hn:hs.Nodup)(hb:cJ fr1 hs=some bs)(z:ar γ (bv κ fr1 L w hs) fr' L' w')(hk:kindOk hs fr' fr1=true):
  ar γ κ (back hs fr1 fr') (dV hs fr1.length L L') w'/\Tr κ.M fr1 L w (back hs fr1 fr') (dV hs fr1.length L L') w' (cA hs fr')/\(∀b,MA (bv κ fr1 L w hs).M fr' L' b->MA κ.M (back hs fr1 fr') (dV hs fr1.length L L') b)/\
  ∀x v,SR (MA (bv κ fr1 L w hs).M fr' L') L' w' x v->SR (MA κ.M (back hs fr1 fr') (dV hs fr1.length L L')) (dV hs fr1.length L L') w' (x.sub (cC hs fr1.length)) v:=by
 obtain⟨cc,bk⟩:=qJ hb;have aN:w.heap.size<=w'.heap.size:=z.size
 have aq:∀j i,hs[j]?=some i->∃v y,L i=some v/\fr1[i]?=some y/\i <fr1.length:=fun j i Z=>by
  obtain⟨y,h1,_⟩:=bk j i Z;have bf:=aC h1
  cases J:L i with
  |some v=>exact⟨v,y,rfl,h1,bf⟩
  |none=>
   have:=G.blk i y h1
   cases y with
   |box=>obtain⟨g,us,e,_⟩:=this;rw[J]at e;cases e
   |row=>obtain⟨T,v,us,e,_⟩:=this;rw[J]at e;cases e
   |map=>obtain⟨r,b4,bj,e,_⟩:=this;rw[J]at e;cases e
   |own=>obtain⟨v,t,e,_⟩:=this;rw[J]at e;cases e
 have aM:∀j i v,hs[j]?=some i->L i=some v->(bv κ fr1 L w hs).L j=some v:=fun j i v hj J=>by simp[bv,hj,J]
 have bq:hs.length<=fr'.length:=by
  rcases Nat.lt_or_ge fr'.length hs.length with h|h
  ·obtain⟨i,Z⟩:=av (xs:=hs) (k:=fr'.length) h;obtain⟨v,_,J,_⟩:=aq _ i Z;obtain⟨y,h1,_⟩:=z.hand _ v (aM _ i v Z J);have:=aC h1;omega
  ·exact h
 have aE:(Go.Proofs.YtgbfedgghjcdcaaGreatDoor.back hs fr1 fr').length=fr1.length+(fr'.length - hs.length):=by
  unfold Go.Proofs.YtgbfedgghjcdcaaGreatDoor.back;rw[List.length_append,nv,k8,List.length_map,List.length_drop]
 -- the three kinds of places
 have am:∀i,i <fr1.length->i∉hs->(Go.Proofs.YtgbfedgghjcdcaaGreatDoor.back hs fr1 fr')[i]?=(fr1[i]?).map (Lb.sub (cM (cA hs fr'))):=fun i Z hm=>by
  unfold Go.Proofs.YtgbfedgghjcdcaaGreatDoor.back;rw[List.getElem?_append_left (by rw[nv,k8];exact Z),uF _ _ _ _ _ hm,qZ]
 have aw:∀(j i:Nat) (b:Lb),hs[j]?=some i->fr'[j]?=some b->(Go.Proofs.YtgbfedgghjcdcaaGreatDoor.back hs fr1 fr')[i]?=some (kD ((fr1[i]?).map (Lb.sub (cM (cA hs fr')))) (b.sub (cC hs fr1.length))):=fun j i b hj bl=>by
  obtain⟨_,_,_,_,Z⟩:=aq j i hj;unfold Go.Proofs.YtgbfedgghjcdcaaGreatDoor.back;rw[List.getElem?_append_left (by rw[nv,k8];exact Z),xU _ _ _ _ j i b hn hj bl (by rw[k8];exact Z),qZ]
 have bc:∀i,fr1.length<=i->(Go.Proofs.YtgbfedgghjcdcaaGreatDoor.back hs fr1 fr')[i]?=(fr'[hs.length+(i - fr1.length)]?).map fun b=>b6 (b.sub (cC hs fr1.length)):=fun i Z=>by
  unfold Go.Proofs.YtgbfedgghjcdcaaGreatDoor.back;rw[List.getElem?_append_right (by rw[nv,k8];exact Z),nv,k8,List.getElem?_map,List.getElem?_drop]
 have an:∀i,i <fr1.length->i∉hs->dV hs fr1.length L L' i=L i:=fun i Z hm=>by
  unfold dV
  cases hx:aT hs i with
  |none=>simp only[if_pos Z]
  |some j=>exact absurd (List.mem_of_getElem? (qO hx)) hm
 have U:∀j i,hs[j]?=some i->dV hs fr1.length L L' i=L' j:=fun j i hj=>by
  unfold dV;rw[uy hn hj]
 have aJ:∀i,fr1.length<=i->dV hs fr1.length L L' i=L' (hs.length+(i - fr1.length)):=fun i Z=>by
  unfold dV
  cases hx:aT hs i with
  |none=>simp only[if_neg (by omega:¬i <fr1.length)]
  |some j=>
   obtain⟨_,_,_,_,h⟩:=aq j i (qO hx);omega
 -- every place is of one kind
 have ag:∀i,(i <fr1.length/\i∉hs)\/(∃j,hs[j]?=some i)\/fr1.length<=i:=fun i=>by
  by_cases h1:i∈hs
  ·obtain⟨j,hj,he⟩:=List.mem_iff_getElem.1 h1;exact .inr (.inl ⟨j,by rw[List.getElem?_eq_getElem hj,he]⟩)
  ·rcases Nat.lt_or_ge i fr1.length with h|h
   ·exact .inl ⟨h,h1⟩
   ·exact .inr (.inr h)
 -- the callee's place of one that is not old
 have V:∀i v,dV hs fr1.length L L' i=some v->(i <fr1.length/\i∉hs/\L i=some v)\/∃q y,L' q=some v/\fr'[q]?=some y/\((hs[q]?=some i)\/(fr1.length<=i/\q=hs.length+(i - fr1.length))):=fun i v h=>by
  rcases ag i with⟨h1,h2⟩|⟨j,hj⟩|h1
  ·rw[an i h1 h2]at h;exact .inl ⟨h1,h2,h⟩
  ·rw[U j i hj]at h;have:=z.lim j v h;exact .inr ⟨j,fr'[j],h,List.getElem?_eq_getElem this,.inl hj⟩
  ·rw[aJ i h1]at h;have:=z.lim _ v h;exact .inr ⟨_,fr'[hs.length+(i - fr1.length)],h,List.getElem?_eq_getElem this,.inr ⟨h1,rfl⟩⟩
 have D:∀i q y,fr'[q]?=some y->((hs[q]?=some i)\/(fr1.length<=i/\q=hs.length+(i - fr1.length)))->∃ad,(Go.Proofs.YtgbfedgghjcdcaaGreatDoor.back hs fr1 fr')[i]?=some ad/\ad.ro=y.ro/\fM (cC hs fr1.length) y ad:=fun i q y h1 h2=>by
  rcases h2 with h2|⟨h2,rfl⟩
  ·exact⟨_,aw q i y h2 h1,by rw[FT,Lb.lu],BP (kR _ _)⟩
  ·exact⟨_,by rw[bc i h2,h1];rfl,by rw[vY,Lb.lu],td (kR _ _)⟩
 have au:∀i k q,((hs[q]?=some i)\/(fr1.length<=i/\q=hs.length+(i - fr1.length)))->((hs[q]?=some k)\/(fr1.length<=k/\q=hs.length+(k - fr1.length)))->i=k:=fun i k q h1 h2=>by
  rcases h1 with h1|⟨h1,h3⟩<;>rcases h2 with h2|⟨h2,h4⟩
  ·rw[h1]at h2;exact Option.some.inj h2
  ·have:=aC h1;omega
  ·have:=aC h2;omega
  ·omega
 have aU:∀q i v,cC hs fr1.length q=some i->L' q=some v->dV hs fr1.length L L' i=some v:=fun q i v h1 h2=>by
  unfold cC at h1
  cases hq:hs[q]? with
  |some j=>
   rw[hq]at h1;cases h1;rw[U q _ hq];exact h2
  |none=>
   rw[hq]at h1;cases h1;have cf:hs.length<=q:=by rw[List.getElem?_eq_none_iff]at hq;exact hq
   rw[aJ _ (by omega)];rw[show hs.length+(fr1.length+(q - hs.length) - fr1.length)=q by omega];exact h2
 -- blocks of the caller's that are not handed over stay
 have O:∀i v b,i <fr1.length->i∉hs->L i=some v->Bk v b->b <w.heap.size/\¬(bv κ fr1 L w hs).X b/\¬(bv κ fr1 L w hs).H b:=fun i v b Z hm J al=>by
  refine⟨(G.new i v b fr1[i] J al (List.getElem?_eq_getElem Z)).1,fun⟨k,hk,u,y,h1,h2,_⟩=>?_,fun⟨k,hk,u,h1,h2⟩=>?_⟩
  ·have:=G.bW i k v u b J h1 al h2;subst this;exact hm hk
  ·have:=G.bW i k v u b J h1 al h2;subst this;exact hm hk
 have aB:∀i v,i∉cA hs fr'->L i=some v->dV hs fr1.length L L' i=some v:=fun i v Z J=>by
  have bf:=G.lim i v J;rcases ag i with⟨h1,h2⟩|⟨j,hj⟩|h1
  ·rw[an i h1 h2];exact J
  ·rw[U j i hj];obtain⟨y,h3,h4⟩:=z.hand j v (aM j i v hj J);refine h4 ?_;rw[<- Bool.not_eq_true];exact fun ht=>Z (AE hj h3 ht)
  ·omega
 have aQ:∀b,Own (Go.Proofs.YtgbfedgghjcdcaaGreatDoor.back hs fr1 fr') (dV hs fr1.length L L') b->(∃i v y,i <fr1.length/\i∉hs/\L i=some v/\Bk v b/\fr1[i]?=some y/\y.ro=false)\/Own fr' L' b:=fun b ⟨i,v,ad,h1,h2,h3,h4⟩=>by
  rcases V i v h1 with⟨I,Q,a3⟩|⟨q,y,I,Q,a3⟩
  ·rw[am i I Q]at h3
   cases hf:fr1[i]? with
   |none=>rw[hf]at h3;cases h3
   |some y=>rw[hf]at h3;cases h3;rw[Lb.lu]at h4;exact .inl ⟨i,v,y,I,Q,a3,h2,hf,h4⟩
  ·obtain⟨a_,b1,b2,_⟩:=D i q y Q a3;rw[b1]at h3;cases h3;exact .inr ⟨q,v,y,I,h2,Q,by rw[<- b2];exact h4⟩
 have aV:∀b,Own fr' L' b->w.heap.size<=b\/(bv κ fr1 L w hs).X b:=fun b h=>(z.own h).2.2;have ao:∀b,(bv κ fr1 L w hs).X b->Own fr1 L b:=fun b ⟨i,_,v,y,h1,h2,h3,h4⟩=>⟨i,v,y,h1,h2,h3,h4⟩
 have aL:∀b,MA (bv κ fr1 L w hs).M fr' L' b->MA κ.M (Go.Proofs.YtgbfedgghjcdcaaGreatDoor.back hs fr1 fr') (dV hs fr1.length L L') b:=fun b hm=>by
  refine⟨?_,fun ho=>?_⟩
  ·rcases hm.1 with h|h|⟨i,Z,v,h1,h2⟩
   ·exact h.1
   ·exact G.fresh b (Nat.le_trans G.size h)
   ·have hl:=G.lim i v h1;exact(G.new i v b fr1[i] h1 h2 (List.getElem?_eq_getElem hl)).2.1
  ·rcases aQ b ho with⟨i,v,y,h1,h2,h3,h4,h5,h6⟩|h
   ·obtain⟨k1,_,k3⟩:=O i v b h1 h2 h3 h4;rcases hm.1 with h|h|h
    ·exact h.2 ⟨i,v,y,h3,h4,h5,h6⟩
    ·omega
    ·exact k3 h
   ·exact hm.2 h
 have bd:Tr κ.M fr1 L w (Go.Proofs.YtgbfedgghjcdcaaGreatDoor.back hs fr1 fr') (dV hs fr1.length L L') w' (cA hs fr'):=⟨aN,fun b hb hm=>⟨⟨hm.1,fun ho=>by
   rcases aQ b ho with⟨i,v,y,h1,h2,h3,h4,h5,h6⟩|h
   ·exact hm.2 ⟨i,v,y,h3,h4,h5,h6⟩
   ·rcases aV b h with h|h
    ·omega
    ·exact hm.2 (ao b h)⟩,z.kept b hb fun hx=>hm.2 (ao b hx)⟩,aB⟩
 refine⟨⟨z.bN,G.gn,G.gx,G.fresh,z.os.trans G.os,z.tape.trans G.tape,z.output.trans G.output,Nat.le_trans G.size aN,fun k hk hx=>?_,fun i v h=>?_,fun i v b ad h1 h2 h3=>?_,fun i k v v' b h1 h2 h3 h4=>?_,fun j v h=>?_,fun i ad h=>?_⟩,bd,aL,fun x v J=>SR.sub _ (Nat.le_refl _) (fun b _ hm=>⟨aL b hm,rfl⟩) aU J⟩
 ·rw[z.kept k (Nat.lt_of_lt_of_le hk G.size) fun h=>?_]
  ·exact G.kept k hk hx
  ·rcases(G.own (ao k h)).2.2 with h|h
   ·omega
   ·exact hx h
 ·rw[aE];rcases V i v h with⟨I,_,_⟩|⟨q,y,I,Q,a3⟩
  ·omega
  ·have:=aC Q;rcases a3 with a3|⟨a3,rfl⟩
   ·obtain⟨_,_,_,_,h⟩:=aq q i a3;omega
   ·omega
 ·rcases V i v h1 with⟨I,Q,a3⟩|⟨q,y,I,Q,a3⟩
  ·rw[am i I Q]at h3
   cases hf:fr1[i]? with
   |none=>rw[hf]at h3;cases h3
   |some y=>
    rw[hf]at h3;cases h3;obtain⟨c1,c2,c0,c3⟩:=G.new i v b y a3 h2 hf;exact⟨Nat.lt_of_lt_of_le c1 aN,c2,c0,fun hr=>c3 (by rw[Lb.lu]at hr;exact hr)⟩
  ·obtain⟨a_,b1,b2,_⟩:=D i q y Q a3;rw[b1]at h3;cases h3;obtain⟨c1,_,c0,c3⟩:=z.new q v b y I h2 Q
   have hh:(κ.M b/\(κ.W.heap.size<=b\/κ.H b)):=by
    rcases c0 with c0|⟨k,hk,u,e1,e2⟩
    ·exact⟨G.fresh b (Nat.le_trans G.size c0),.inl (Nat.le_trans G.size c0)⟩
    ·have hl:=G.lim k u e1;have:=G.new k u b fr1[k] e1 e2 (List.getElem?_eq_getElem hl);exact⟨this.2.1,this.2.2.1⟩
   refine⟨c1,hh.1,hh.2,fun hr=>?_⟩;rcases c3 (by rw[<- b2];exact hr)with h|h
   ·exact .inl (Nat.le_trans G.size h)
   ·exact(G.own (ao b h)).2.2
 ·have ak:∀i v q u y,i <fr1.length->i∉hs->L i=some v->Bk v b->L' q=some u->fr'[q]?=some y->Bk u b->False:=fun i v q u y I Q a3 a4 a5 a6 a7=>by
   obtain⟨k1,_,k3⟩:=O i v b I Q a3 a4;rcases(z.new q u b y a5 a7 a6).2.2.1 with h|h
   ·exact Nat.lt_irrefl _ (Nat.lt_of_lt_of_le k1 h)
   ·exact k3 h
  rcases V i v h1 with⟨I,Q,a3⟩|⟨q,y,I,Q,a3⟩<;>rcases V k v' h2 with⟨b1,b2,b3⟩|⟨p,b0,b1,b2,b3⟩
  ·exact G.bW i k v v' b a3 b3 h3 h4
  ·exact(ak i v p v' b0 I Q a3 h3 b1 b2 h4).elim
  ·exact(ak k v' q v y b1 b2 b3 h4 I Q h3).elim
  ·have:=z.bW q p v v' b I b1 h3 h4;subst this;exact au i k q a3 b3
 ·obtain⟨y,h1,h2⟩:=G.hand j v h;have cd:=aC h1;rcases ag j with⟨I,Q⟩|⟨q,hq⟩|I
  ·exact⟨_,by rw[am j I Q,h1];rfl,fun ht=>by rw[Lb.r9]at ht;rw[an j I Q];exact h2 ht⟩
  ·obtain⟨u,ch,hu,_,_⟩:=aq q j hq;obtain⟨aY,h3,h4⟩:=z.hand q u (aM q j u hq hu);refine⟨_,aw q j aY hq h3,fun ht=>?_⟩
   have bM:y.tch=false:=by
    rw[<- Bool.not_eq_true];intro af
    cases y with
    |row ro bb sz es=>
     have:bb=true:=af;subst this;obtain⟨cl,b5,cp,ca,rfl⟩:=xR hk hq h3 h1;rw[h1]at ht;simp[kD,Lb.sub,Lb.tch]at ht
    |box=>cases af
    |map=>cases af
    |own=>cases af
   have bh:aY.tch=false:=by
    rw[<- Bool.not_eq_true];intro af
    cases aY with
    |row ro bb sz es=>
     have:bb=true:=af;subst this;unfold kD at ht;split at ht
     ·rename_i e1 e2;cases e2;cases ht
     ·cases ht
    |box=>cases af
    |map=>cases af
    |own=>cases af
   have:=h2 bM;rw[hu]at this;cases this;rw[U q j hq];exact h4 bh
  ·omega
 ·rcases ag i with⟨I,Q⟩|⟨q,hq⟩|I
  ·rw[am i I Q]at h
   cases hf:fr1[i]? with
   |none=>rw[hf]at h;cases h
   |some y=>
    rw[hf]at h;cases h
    have be:∀v b,L i=some v->Bk v b->w'.heap[b]?=w.heap[b]?:=fun v b J al=>by
     obtain⟨k1,k2,_⟩:=O i v b I Q J al;exact z.kept b k1 k2
    exact l9 (i:=i) (σ:=cM (cA hs fr')) aN bd.same (fun p q u hq hu=>by obtain⟨rfl,hq⟩:=uD hq;exact aB _ u hq hu) (fun v J=>by rw[an i I Q];exact J) be (fun T sz v n us J hr=>hr.same fun b al=>be v b J (.one al)) (kR _ _) (G.blk i y hf)
  ·obtain⟨u,_,hu,_,_⟩:=aq q i hq;obtain⟨y,h3,_⟩:=z.hand q u (aM q i u hq hu);obtain⟨a_,b1,_,b3⟩:=D i q y h3 (.inl hq);rw[b1]at h;cases h;exact l9 (i:=q) (σ:=cC hs fr1.length) (Nat.le_refl _) (fun b _ hm=>⟨aL b hm,rfl⟩) aU (fun v J=>by rw[U q i hq];exact J) (fun _ _ _ _=>rfl) (fun _ _ _ _ _ _ h=>h) b3 (z.blk q y h3)
  ·have Z:=aC h;rw[aE]at Z;obtain⟨y,h3⟩:=av (xs:=fr') (k:=hs.length+(i - fr1.length)) (by omega);obtain⟨a_,b1,_,b3⟩:=D i _ y h3 (.inr ⟨I,rfl⟩);rw[b1]at h;cases h;exact l9 (i:=hs.length+(i - fr1.length)) (σ:=cC hs fr1.length) (Nat.le_refl _) (fun b _ hm=>⟨aL b hm,rfl⟩) aU (fun v J=>by rw[aJ i I];exact J) (fun _ _ _ _=>rfl) (fun _ _ _ _ _ _ h=>h) b3 (z.blk _ y h3)
end
section
variable {A A':Nat->Prop} {L L':Ls} {w w':World}
mutual
theorem xn:∀(x:AV),j6 x=true->∀(v:Value),VR A w x v->VR A' w' x v
 | .int k n,_,v,h=>by cases h;exact .int _ _
 | .bool b,_,v,h=>by cases h;exact .bool _
 | .str s,_,v,h=>by cases h;exact .str _
 | .lit u,_,v,h=>by cases h with|lit _ h=>exact .lit _ h
 | .gI,_,v,h=>by cases h;exact .gI _ _
 | .agg z,y,v,h=>by
  cases h with
  |agg _ us hl hr=>exact .agg _ _ hl (uk z (by rw[j6]at y;exact y) us hr)
 | .aL z,y,v,h=>by
  cases h with
  |aL _ us hl hr=>exact .aL _ _ hl (uk z (by rw[j6]at y;exact y) us hr)
 | .arr es,y,_,_=>by simp[j6]at y
 | .tp z,y,_,_=>by simp[j6]at y
 | .fn f nf z,y,_,_=>by simp[j6]at y
 | .mp ks vs,y,_,_=>by simp[j6]at y
theorem uk:∀(cs:List AV),o6 cs=true->∀(us:Array Value),(∀(j:Nat) (x:AV) (u:Value),cs[j]?=some x->us[j]?=some u->VR A w x u)->∀(j:Nat) (x:AV) (u:Value),cs[j]?=some x->us[j]?=some u->VR A' w' x u
 |[],_,us,_=>fun j x u y _=>by simp at y
 |c::cs,z,us,D=>fun j x u y v=>by
  rw[o6,Bool.and_eq_true]at z
  cases j with
  |zero=>cases y;exact xn c z.1 u (D 0 c u rfl v)
  |succ j=>
   refine uk cs z.2 (us.extract 1 us.size) (fun j x u y v=>?_) j x u (by simpa using y) ?_
   ·rw[Array.getElem?_extract]at v;split at v
    ·rw[Nat.add_comm]at v;exact D (j+1) x u (by simpa using y) v
    ·cases v
   ·have G:=(Array.getElem?_eq_some_iff.1 v).1;rw[Array.getElem?_extract,if_pos (by omega),Nat.add_comm];exact v
end
mutual
theorem xo:∀(x:SV),cI x=true->∀(v:Value),SR A L w x v->SR A' L' w' x v
 | .t x,u,v,h=>by cases h with|t _ _ h=>exact .t _ _ (xn x (by rw[cI]at u;exact u) v h)
 | .nil,_,v,h=>by cases h;exact .nil
 | .agg y,u,v,h=>by
  cases h with
  |agg _ us hl hr=>exact .agg _ _ hl (uo y (by rw[cI]at u;exact u) us hr)
 | .aL y,u,v,h=>by
  cases h with
  |aL _ us hl hr=>exact .aL _ _ hl (uo y (by rw[cI]at u;exact u) us hr)
 | .tc es,u,_,_=>by simp[cI]at u
 | .nn es,u,_,_=>by simp[cI]at u
 | .lp i j,u,_,_=>by simp[cI]at u
 | .ls i,u,_,_=>by simp[cI]at u
 | .lv i sz a n,u,_,_=>by simp[cI]at u
 | .le i sz k j,u,_,_=>by simp[cI]at u
 | .lm i,u,_,_=>by simp[cI]at u
 | .lo i p,u,_,_=>by simp[cI]at u
 | .lr i p k,u,_,_=>by simp[cI]at u
 | .fn f nf y,u,_,_=>by simp[cI]at u
 | .aN s,u,_,_=>by simp[cI]at u
 | .no,u,_,_=>by simp[cI]at u
 | .dead,u,_,_=>by simp[cI]at u
theorem uo:∀(cs:List SV),o7 cs=true->∀(us:Array Value),(∀(j:Nat) (x:SV) (u:Value),cs[j]?=some x->us[j]?=some u->SR A L w x u)->∀(j:Nat) (x:SV) (u:Value),cs[j]?=some x->us[j]?=some u->SR A' L' w' x u
 |[],_,us,_=>fun j x u y _=>by simp at y
 |c::cs,z,us,D=>fun j x u y v=>by
  rw[o7,Bool.and_eq_true]at z
  cases j with
  |zero=>cases y;exact xo c z.1 u (D 0 c u rfl v)
  |succ j=>
   refine uo cs z.2 (us.extract 1 us.size) (fun j x u y v=>?_) j x u (by simpa using y) ?_
   ·rw[Array.getElem?_extract]at v;split at v
    ·rw[Nat.add_comm]at v;exact D (j+1) x u (by simpa using y) v
    ·cases v
   ·have G:=(Array.getElem?_eq_some_iff.1 v).1;rw[Array.getElem?_extract,if_pos (by omega),Nat.add_comm];exact v
end
def SR.yK(V:∀b,b <w.heap.size->A b->A' b/\w'.heap[b]?=w.heap[b]?)(hs:w.heap.size<=w'.heap.size){x:SV}{v:Value}(h:SR A L w x v):x.refs=[]->SR A' L' w' x v:=by
 have G:∀{z:List SV},SV.fH z=[]->∀(j:Nat) (c:SV),z[j]?=some c->c.refs=[]:=fun{z}=>by
  induction z with
  |nil=>intro _ j c Q;simp at Q
  |cons d ds D=>
   intro I j c Q;rw[SV.fH,List.append_eq_nil_iff]at I
   cases j with
   |zero=>cases Q;exact I.1
   |succ j=>exact D I.2 j c (by simpa using Q)
 induction h with
 |t x v h=>intro _;exact .t x v (VR.on hs V h)
 |nil=>intro _;exact .nil
 |tc U a h=>intro _;exact .tc U a (VR.on hs V h)
 |nn U a c h=>intro _;exact .nn U a c (VR.on hs V h)
 |agg z O J I D=>intro y;rw[SV.refs]at y;exact .agg z O J fun j x u h1 h2=>D j x u h1 h2 (G y j x h1)
 |aL z O J I D=>intro y;rw[SV.refs]at y;exact .aL z O J fun j x u h1 h2=>D j x u h1 h2 (G y j x h1)
 |fn f z Z O J I D=>intro y;rw[SV.refs]at y;exact .fn f z Z O J fun j x u h1 h2=>D j x u h1 h2 (G y j x h1)
 |aN x v h D=>intro y;rw[SV.refs]at y;exact .aN x v (D y)
 |no=>intro _;exact .no
 |dead v=>intro _;exact .dead v
 |lp=>intro y;rw[SV.refs]at y;cases y
 |ls=>intro y;rw[SV.refs]at y;cases y
 |lv=>intro y;rw[SV.refs]at y;cases y
 |le=>intro y;rw[SV.refs]at y;cases y
 |lm=>intro y;rw[SV.refs]at y;cases y
 |lo=>intro y;rw[SV.refs]at y;cases y
 |lr=>intro y;rw[SV.refs]at y;cases y
end
def eS(P :Program)(f :FuncId):Prop := ∃fn,P.funcs[f]?=some fn/\ (fn.name== "runtime.NumGoroutine")=false/\ fn.body.isNone=false
def zP{P:Program}{f:FuncId}(h:eS P f)(args:Array Value)(w:World):(callFunc f args).run P w=.ok (.enter f args) w:=by
 obtain⟨fn,h1,h2,h3⟩:=h;have u : ¬fn.name= "runtime.NumGoroutine" :=by simpa using h2
 have v:¬fn.body=none:=by intro h;rw[h]at h3;cases h3
 simp[callFunc,program,Sem.run_bind,Sem.run,Result.andThen_ok,h1,u,v]
def c7(P:Program)(γ:Glob)(C:CallF):Prop:=∀(f:Nat) (y:List SV) (fr:Fr) (r:SV) (fr':Fr),C f y fr=some (r,fr')->eS P f/\∀(κ:Ctx) (w:World) (z:Array Value),ar γ κ fr κ.L w->κ.W=w->z.size=y.length->(∀(j:Nat) (x:SV) (u:Value),y[j]?=some x->z[j]?=some u->SR (MA κ.M fr κ.L) κ.L w x u)->
 Calls P f z w fun e w'=>∃v L',e=.returned v/\ar γ κ fr' L' w'/\SR (MA κ.M fr' L') L' w' r v
section
variable {P:Program} {γ:Glob} {κ:Ctx} {fr:Fr} {L:Ls} {w:World}
def ar.pure(u:ar γ κ fr L w)(M:Nat->Prop)(v:∀b,w.heap.size<=b->M b):ar γ ⟨M,fun _=>False,fun _=>False,w,fun _=>none⟩ [] (fun _=>none) w where
 bN:=u.bN
 gn:=Nat.le_trans u.gn u.size
 gx:=fun _ h=>h.elim
 fresh:=v
 os:=rfl
 tape:=rfl
 output:=rfl
 size:=Nat.le_refl _
 kept:=fun _ _ _=>rfl
 lim:=fun _ _ h=>by cases h
 new:=fun _ _ _ _ h=>by cases h
 bW:=fun _ _ _ _ _ h=>by cases h
 hand:=fun _ _ h=>by cases h
 blk:=fun i y h=>by simp at h
theorem pt{A A':Nat->Prop}{L':Ls}{σ:Nat->Option Nat}:∀(hl:List Bool) (args:List SV) (xs:List AV) (us:List Value),hl.length=args.length->args.length=us.length->(a8 hl args).length=xs.length->(∀(j:Nat) (s:SV) (u:Value),args[j]?=some s->us[j]?=some u->SR A L w s u)->(∀s v,SR A L w s v->SR A' L' w (s.sub σ) v)->(∀(j:Nat) (s:SV) (x:AV) (v:Value),(a8 hl args)[j]?=some s->xs[j]?=some x->SR A L w s v->VR A' w x v)->
  (cy σ hl args xs).length=us.length/\∀(j:Nat) (s:SV) (u:Value),(cy σ hl args xs)[j]?=some s->us[j]?=some u->SR A' L' w s u
 |[],[],xs,us,_,h2,_,_,_,_=>by
  have:us=[]:=List.eq_nil_of_length_eq_zero h2.symm;subst this;exact⟨by simp[cy],fun j s u hs=>by simp[cy]at hs⟩
 |true::hl,s::args,xs,us,h1,h2,h3,h4,D,z=>by
  cases us with
  |nil=>simp at h2
  |cons u us=>
   obtain⟨G,I⟩:=pt hl args xs us (by simpa using h1) (by simpa using h2) h3 (fun j s u hs y=>h4 (j+1) s u (by simpa using hs) (by simpa using y)) D z;refine⟨by rw[cy];simp[G],fun j J O hs y=>?_⟩;rw[cy]at hs
   cases j with
   |zero=>cases hs;cases y;exact D s u (h4 0 s u rfl rfl)
   |succ j=>exact I j J O (by simpa using hs) (by simpa using y)
 |false::hl,s::args,xs,us,h1,h2,h3,h4,D,z=>by
  cases us with
  |nil=>simp at h2
  |cons u us=>
   rw[a8]at h3 z
   cases xs with
   |nil=>simp at h3
   |cons x xs=>
    obtain⟨G,I⟩:=pt hl args xs us (by simpa using h1) (by simpa using h2) (by simpa using h3) (fun j s u hs y=>h4 (j+1) s u (by simpa using hs) (by simpa using y)) D fun j s x v hs U Q=>z (j+1) s x v (by simpa using hs) (by simpa using U) Q;refine⟨by rw[cy];simp[G],fun j J O hs y=>?_⟩;rw[cy]at hs
    cases j with
    |zero=>cases hs;cases y;exact .t _ _ (z 0 s x u rfl rfl (h4 0 s u rfl rfl))
    |succ j=>exact I j J O (by simpa using hs) (by simpa using y)
 |[],_::_,_,_,h1,_,_,_,_,_=>by simp at h1
 |_::_,[],_,_,h1,_,_,_,_,_=>by simp at h1
theorem qM(g:Cfg)(f:Nat):∀(args:List SV) (k:Nat),(aK g f k args).length=args.length
 |[],_=>rfl
 |s::r,k=>by rw[aK];simp[qM g f r]
def B8{g:Cfg}{C:CallF}{dr:Bool}{f:Nat}{args:List SV}{x:SV}{fr':Fr}{ks:List Nat}(hS:c7 g.P γ C)(h:fu g C dr fr f args=some (x,fr',ks))(G:ar γ κ fr L w)(us:List Value)(an:us.length=args.length)(ao:∀(j:Nat) (s:SV) (u:Value),args[j]?=some s->us[j]?=some u->SR (MA κ.M fr L) L w s u):
  eS g.P f/\Calls g.P f us.toArray w fun e w'=>∃v,e=.returned v/\∃L',Tr κ.M fr L w fr' L' w' ks/\ar γ κ fr' L' w'/\SR (MA κ.M fr' L') L' w' x v:=by
 unfold fu at h;split at h
 ·cases h
 ·rename_i xs aq;split at h
  ·rename_i hh;split at h
   ·cases h
   ·rename_i r ex z;obtain⟨Q,z⟩:=hS _ _ _ _ _ z;refine⟨Q,?_⟩;have aJ:∀(s:SV) (v:Value),SR (MA κ.M fr L) L w s v->True:=fun _ _ _=>trivial;split at h
    ·-- the answer holds no address
     rename_i al;cases h;obtain⟨x1,x2⟩:=mr G (A:=fun _=>True) (fun _ _=>trivial) _ _ aq (fun _ _ _ _ _ _=>trivial);have aL:=G.pure (fun _=>True) (fun _ _=>trivial);obtain⟨m1,m2⟩:=pt (L:=L) (w:=w) (A:=MA κ.M fr L) (A':=MA (fun _=>True) [] (fun _=>none)) (L':=fun _=>none) (σ:=aT []) (aK g f 0 args) args xs us (qM g f args 0) an.symm x1 ao (fun s v U=>SR.sub _ (Nat.le_refl _) (fun b _ _=>⟨⟨trivial,fun⟨i,_,_,h,_⟩=>by cases h⟩,rfl⟩) (fun i j v V=>by cases V) U) fun j s x v hs hx U=>VR.on (Nat.le_refl _) (fun b _ _=>⟨⟨trivial,fun⟨i,_,_,h,_⟩=>by cases h⟩,rfl⟩) (x2 j s x v hs hx U);refine(z ⟨fun _=>True,fun _=>False,fun _=>False,w,fun _=>none⟩ w us.toArray aL rfl (by simpa using m1.symm) fun j s u hs Z=>m2 j s u hs (by simpa using Z)).mono ?_;rintro e w' ⟨v,L',rfl,hC',hr⟩;have J:Below w.heap.size w w':=⟨hC'.os,hC'.tape,hC'.output,hC'.size,fun k Q=>hC'.kept k Q fun h=>h⟩;exact⟨v,rfl,L,Tr.below J,G.later J,xo _ al v hr⟩
    ·obtain⟨I,O,af⟩:=G.jw (bg fr (a8 (aK g f 0 args) args));obtain⟨x1,x2⟩:=mr G (A:=MA κ.M (freeze fr (bg fr (a8 (aK g f 0 args) args))) L) af _ _ aq (kZ G);have aB:cJ (freeze fr (bg fr (a8 (aK g f 0 args) args))) []=some []:=rfl;obtain⟨ad,ag,ak⟩:=I.handed (hs:=[]) List.nodup_nil aB;obtain⟨m1,m2⟩:=pt (L:=L) (w:=w) (A:=MA κ.M fr L) (A':=MA (bv κ (freeze fr (bg fr (a8 (aK g f 0 args) args))) L w []).M [] (bv κ (freeze fr (bg fr (a8 (aK g f 0 args) args))) L w []).L) (L':=(bv κ (freeze fr (bg fr (a8 (aK g f 0 args) args))) L w []).L) (σ:=aT []) (aK g f 0 args) args xs us (qM g f args 0) an.symm x1 ao (fun s v U=>ak s v (O.sr U)) fun j s x v hs hx U=>VR.on (Nat.le_refl _) (fun b _ J=>⟨ag b J,rfl⟩) (x2 j s x v hs hx U);have D:=z (bv κ (freeze fr (bg fr (a8 (aK g f 0 args) args))) L w []) w us.toArray ad rfl (by simpa using m1.symm) fun j s u hs Z=>m2 j s u hs (by simpa using Z);split at h
     ·-- in the text's order: what came back is taken into the list
      cases h;refine D.mono ?_;rintro e w' ⟨v,L',rfl,hC',hr⟩;obtain⟨b1,b2,b3,b4⟩:=I.back List.nodup_nil aB hC' rfl
      have e1:Go.Proofs.YtgbfedgghjcdcaaGreatDoor.back [] (freeze fr (bg fr (a8 (aK g f 0 args) args))) ex=freeze fr (bg fr (a8 (aK g f 0 args) args))++ex.map (fun b=>b6 (b.sub (cC [] fr.length))):=by
       unfold Go.Proofs.YtgbfedgghjcdcaaGreatDoor.back;rw[nj];simp[kq,cA,dw]
      rw[nj]at b1 b2 b4;rw[e1]at b1 b2 b4;exact⟨v,rfl,_,(O.trans (ks:=[]) b2),b1,b4 _ v hr⟩
     ·-- drawn: as trees
      split at h
      ·rename_i aQ;rw[DT aQ]at D I
       have au:∀{ex:Fr} {L':Ls} {b:Nat},MA (bv κ (freeze fr []) L w []).M ex L' b->MA κ.M fr L b:=fun{ex L' b} hm=>by
        rcases hm.1 with h|h|⟨i,V,_⟩
        ·exact h
        ·exact⟨G.fresh b (Nat.le_trans G.size h),fun ho=>by have:=(G.own ho).1;omega⟩
        ·cases V
       split at h
       ·rename_i aN;cases h;refine D.mono ?_;rintro e w' ⟨v,L',rfl,hC',hr⟩;have J:Below w.heap.size w w':=⟨hC'.os,hC'.tape,hC'.output,hC'.size,fun k Q=>hC'.kept k Q fun⟨i,V,_⟩=>by cases V⟩;exact⟨v,rfl,L,Tr.below J,G.later J,SR.yK (fun b _ hm=>⟨au hm,rfl⟩) (Nat.le_refl _) hr aN⟩
       ·split at h
        ·rename_i y hy;cases h;refine D.mono ?_;rintro e w' ⟨v,L',rfl,hC',hr⟩;have J:Below w.heap.size w w':=⟨hC'.os,hC'.tape,hC'.output,hC'.size,fun k Q=>hC'.kept k Q fun⟨i,V,_⟩=>by cases V⟩;refine⟨v,rfl,L,Tr.below J,G.later J,.t _ _ ((lx hC' (A:=MA κ.M fr L) (fun b hm=>au hm) deep).1 r y v hy (fun i _ u b Z aU=>?_) hr)⟩;have aM:=hC'.lim i u Z;rcases(hC'.new i u b ex[i] Z aU (List.getElem?_eq_getElem aM)).2.2.1 with h|⟨k,Q,_⟩
         ·exact⟨G.fresh b (Nat.le_trans G.size h),fun ho=>by have:=(G.own ho).1;have h':w.heap.size<=b:=h;omega⟩
         ·cases Q
        ·cases h
      ·cases h
  ·rename_i h0 ht hh;split at h
   ·cases h
   ·simp only at h;split at h
    ·cases h
    ·rename_i bs aw;split at h
     ·cases h
     ·split at h
      ·cases h
      ·rename_i r aV z;split at h
       ·cases h
       ·rename_i am;cases h;obtain⟨Q,z⟩:=hS _ _ _ _ _ z;refine⟨Q,?_⟩;have aE:(close fr 4 (h0::ht)).Nodup:=tn _ _ _ (by rw[<- hh];exact oT _ _ List.nodup_nil);obtain⟨I,O,af⟩:=G.jw (bg fr (a8 (aK g f 0 args) args));obtain⟨x1,x2⟩:=mr G (A:=MA κ.M (freeze fr (bg fr (a8 (aK g f 0 args) args))) L) af _ _ aq (kZ G);obtain⟨ad,ag,ak⟩:=I.handed aE aw;obtain⟨m1,m2⟩:=pt (L:=L) (w:=w) (A:=MA κ.M fr L) (A':=MA (bv κ (freeze fr (bg fr (a8 (aK g f 0 args) args))) L w (close fr 4 (h0::ht))).M (bs.map fun b=>b6 (b.sub (aT (close fr 4 (h0::ht))))) (bv κ (freeze fr (bg fr (a8 (aK g f 0 args) args))) L w (close fr 4 (h0::ht))).L) (L':=(bv κ (freeze fr (bg fr (a8 (aK g f 0 args) args))) L w (close fr 4 (h0::ht))).L) (σ:=aT (close fr 4 (h0::ht))) (aK g f 0 args) args xs us (qM g f args 0) an.symm x1 ao (fun s v U=>ak s v (O.sr U)) fun j s x v hs hx U=>VR.on (Nat.le_refl _) (fun b _ J=>⟨ag b J,rfl⟩) (x2 j s x v hs hx U);refine(z (bv κ (freeze fr (bg fr (a8 (aK g f 0 args) args))) L w (close fr 4 (h0::ht))) w us.toArray ad rfl (by simpa using m1.symm) fun j s u hs Z=>m2 j s u hs (by simpa using Z)).mono ?_;rintro e w' ⟨v,L',rfl,hC',hr⟩;obtain⟨b1,b2,b3,b4⟩:=I.back aE aw hC' am;rw[nj]at b1 b2 b4;exact⟨v,rfl,_,((O.AW fun i V=>by cases V).trans b2),b1,b4 _ v hr⟩
end
def ko:Obj->Bool
 | .deferred _=>true
 | .loop _=>true
 | .mapIter ..=>true
 |_=>false
structure Lq (B:Nat) (w w':World):Prop where
 os:w'.os=w.os
 tape:w'.tape=w.tape
 output:w'.output=w.output
 size:w'.heap.size=w.heap.size
 blk:∀b,w'.heap[b]?=w.heap[b]?\/(B<=b/\∃o,w.heap[b]?=some o/\ko o=true)
def Lq.refl{B:Nat}{w:World}:Lq B w w:=⟨rfl,rfl,rfl,rfl,fun _=>.inl rfl⟩
def Lq.put{B:Nat}{w:World}{b:Nat}{o y:Obj}(v:B<=b)(h:w.heap[b]?=some o)(ho:ko o=true):Lq B w (w.putObj b y):=
 ⟨rfl,rfl,rfl,by simp[World.putObj],fun k=>by
  by_cases u:k=b
  ·subst u;exact .inr ⟨v,o,h,ho⟩
  ·exact .inl (World.putObj_heap_other u)⟩
theorem Lq.trans{B:Nat}{w w' u:World}(h:Lq B w w')(k:Lq B w' u)(hs:∀(b:Nat) (o:Obj),w.heap[b]?=some o->ko o=true->∃y,w'.heap[b]?=some y/\ko y=true):Lq B w u:=
 ⟨k.os.trans h.os,k.tape.trans h.tape,k.output.trans h.output,k.size.trans h.size,fun b=>by
  rcases h.blk b with h1|⟨v,o,h1,h2⟩
  ·rcases k.blk b with h3|⟨v,o,h3,h4⟩
   ·exact .inl (h3.trans h1)
   ·exact .inr ⟨v,o,by rw[<- h1];exact h3,h4⟩
  ·exact .inr ⟨v,o,h1,h2⟩⟩
section
variable {B:Nat} {w w':World}
def Lq.fB(h:Lq B w w'){b:Nat}{o:Obj}(hb:w.heap[b]?=some o)(ho:ko o=false):w'.heap[b]?=w.heap[b]?:=by
 rcases h.blk b with h1|⟨_,u,h1,h2⟩
 ·exact h1
 ·rw[hb]at h1;cases h1;rw[ho]at h2;cases h2
def Cg{w:World}{a:Addr}{v:Value}(h:w.cell? a=some v):∃o,w.heap[a.block]?=some o/\ko o=false:=by
 unfold World.cell? at h
 cases u:w.heap[a.block]? with
 |none=>rw[u]at h;simp at h
 |some o=>
  rw[u]at h;refine⟨o,rfl,?_⟩;cases o <;>simp_all[ko]
theorem Lq.cell(h:Lq B w w'){a:Addr}{v:Value}(hc:w.cell? a=some v):w'.cell? a=some v:=by
 obtain⟨o,h1,h2⟩:=Cg hc;obtain⟨b,p,s⟩:=a;rw[World.cell?_of_block (w:=w) (h.fB h1 h2)];exact hc
def VR.lq{M:Nat->Prop}(hq:Lq B w w'){x:AV}{v:Value}(h:VR M w x v):VR M w' x v:=by
 induction h with
 |int k n=>exact .int k n
 |bool b=>exact .bool b
 |str s=>exact .str s
 |bj A c=>exact .bj A c
 |arr b o c sz es z I V Q O u ad hc Z y=>exact .arr b o c sz es z I V Q (by rw[hq.size];exact O) u ad (fun k j hk hj=>hq.cell (hc k j hk hj)) y
 |tp b o G z I O u hc Z y=>exact .tp b o G z I (by rw[hq.size];exact O) u (fun j hj=>hq.cell (hc j hj)) y
 |agg G z U Z y=>exact .agg G z U y
 |aL G z U Z y=>exact .aL G z U y
 |fn f G fs z U Z y=>exact .fn f G fs z U y
 |mp r ks vs J D O u hh hk hv ak al af ag=>exact .mp r ks vs J D (by rw[hq.size];exact O) u (by rw[hq.fB hh rfl];exact hh) hk hv af ag
 |lit v h=>exact .lit v h
 |gI t v=>exact .gI t v
theorem SR.lq{A:Nat->Prop}{L:Ls}(hq:Lq B w w'){x:SV}{v:Value}(h:SR A L w x v):SR A L w' x v:=by
 induction h with
 |t x v h=>exact .t x v (h.lq hq)
 |nil=>exact .nil
 |tc G a h=>exact .tc G a (h.lq hq)
 |nn G a c h=>exact .nn G a c (h.lq hq)
 |lp i j g h=>exact .lp i j g h
 |ls i v h I=>exact .ls i v h I
 |lv i sz a n b m c h=>exact .lv i sz a n b m c h
 |le i sz k j b m c h=>exact .le i sz k j b m c h
 |lm i r h=>exact .lm i r h
 |lo i p t v h J I=>exact .lo i p t v h J I
 |lr i p k b n c t h J=>exact .lr i p k b n c t h J
 |agg y D z O u=>exact .agg y D z u
 |aL y D z O u=>exact .aL y D z u
 |fn f y Q D z O u=>exact .fn f y Q D z u
 |aN x v h u=>exact .aN x v u
 |no=>exact .no
 |dead v=>exact .dead v
def zJ{T:TypeId}{sz n:Nat}{v:Value}{us:List Value}(h:b8 w T sz v n us){k:Nat}(hk:bI v=some k):∃o,w.heap[k]?=some o/\ko o=false:=by
 rcases h with⟨_,_,a,rfl⟩|h
 ·cases a <;>cases hk
 ·rcases h.2 with⟨rfl,O⟩|⟨g,cap,y,rfl,z,u,I,D,G,J⟩
  ·cases hk
  ·cases cap with
   |zero=>cases hk
   |succ c=>cases hk;exact⟨_,u,rfl⟩
theorem h_.lq{A:Nat->Prop}{L:Ls}(hq:Lq B w w'){i:Nat}{b:Lb}(h:h_ A L w i b):h_ A L w' i b:=by
 cases b with
 |box V T O=>
  obtain⟨g,Z,h1,h2,h3,h4⟩:=h;exact⟨g,Z,h1,by rw[hq.fB h2 rfl];exact h2,h3,fun j x u J I=>(h4 j x u J I).lq hq⟩
 |row V ad sz es=>
  obtain⟨T,v,Z,h1,h2,Q,h3,h4⟩:=h;refine⟨T,v,Z,h1,h2.same fun k U=>?_,Q,h3,fun k j O x U hj=>?_⟩
  ·obtain⟨o,z,G⟩:=zJ h2 U;exact hq.fB z G
  ·obtain⟨u,z,G⟩:=h4 k j O x U hj;exact⟨u,z,G.lq hq⟩
 |map V ks vs=>
  obtain⟨r,D,y,h1,h2,h3,h4,z,G,h7⟩:=h;exact⟨r,D,y,h1,by rw[hq.fB h2 rfl];exact h2,h3,h4,fun j x u J I=>(z j x u J I).lq hq,fun j x u J I=>(G j x u J I).lq hq,h7⟩
 |own V x=>
  obtain⟨v,t,h1,h2⟩:=h;refine⟨v,t,h1,h2.same fun b hb=>?_⟩;obtain⟨_,O,T,z⟩:=h2.lt b hb;exact hq.fB z rfl
variable {γ:Glob} {κ:Ctx} {fr:Fr} {L:Ls}
theorem ar.lq(hq:Lq κ.W.heap.size w w')(h:ar γ κ fr L w):ar γ κ fr L w' where
 bN:=γ.stays _ _ h.bN fun k y=>by
  rcases hq.blk k with h1|⟨z,_⟩
  ·exact h1
  ·have:=h.gn;omega
 gn:=h.gn
 gx:=h.gx
 fresh:=h.fresh
 os:=hq.os.trans h.os
 tape:=hq.tape.trans h.tape
 output:=hq.output.trans h.output
 size:=by rw[hq.size];exact h.size
 kept:=fun k y G=>by
  rcases hq.blk k with h1|⟨z,_⟩
  ·exact h1.trans (h.kept k y G)
  ·omega
 lim:=h.lim
 new:=fun i v b u h1 h2 h3=>by rw[hq.size];exact h.new i v b u h1 h2 h3
 bW:=h.bW
 hand:=h.hand
 blk:=fun i u D=>(h.blk i u D).lq hq
def ar.mark(h:ar γ κ fr L w){D:Nat}{o:Obj}(O:κ.W.heap.size<=D)(G:w.heap[D]?=some o)(ho:ko o=true):MA κ.M fr L D:=by
 refine⟨h.fresh D O,fun⟨i,v,V,h1,h2,h3,_⟩=>?_⟩;have I:=h.blk i V h3
 cases V with
 |box Q T Z=>
  obtain⟨g,us,h4,u,_⟩:=I;rw[h1]at h4;cases h4;cases h2.of rfl;rw[G]at u;cases u;cases ho
 |row Q ad sz es=>
  obtain⟨T,v',us,h4,u,_⟩:=I;rw[h1]at h4;cases h4;obtain⟨o',z,y⟩:=zJ u (h2.of (by obtain⟨_,_,rfl⟩:=u.form;rfl));rw[G]at z;cases z;rw[ho]at y;cases y
 |map Q ks vs=>
  obtain⟨r,U,J,h4,u,_⟩:=I;rw[h1]at h4;cases h4;cases h2.of rfl;rw[G]at u;cases u;cases ho
 |own Q x=>
  obtain⟨v',t,h4,z⟩:=I;rw[h1]at h4;cases h4;obtain⟨_,Z,T,y⟩:=z.lt D h2;rw[G]at y;cases y;cases ho
def Marks(κ:Ctx)(w:World)(ds:List Deferred):Prop:=(∃u:List Nat,u.Nodup/\ds=u.map (fun D=>{target:=.collected D,args:=#[]})/\∀D∈u,κ.W.heap.size<=D/\w.heap[D]?=some (.deferred (some [])))/\(κ.H κ.W.heap.size->ds=[])
def Marks.nil:Marks κ w []:=⟨⟨[],List.nodup_nil,rfl,fun D h=>by cases h⟩,fun _=>rfl⟩
def Marks.tr{fr':Fr}{L':Ls}{ks:List Nat}{ds:List Deferred}(h:Marks κ w ds)(z:ar γ κ fr L w)(G:Tr κ.M fr L w fr' L' w' ks):Marks κ w' ds:=by
 obtain⟨⟨y,h1,h2,h3⟩,h4⟩:=h;refine⟨⟨y,h1,h2,fun D u=>⟨(h3 D u).1,?_⟩⟩,h4⟩;have v:=(Array.getElem?_eq_some_iff.1 (h3 D u).2).1;rw[(G.same D v (z.mark (h3 D u).1 (h3 D u).2 rfl)).2];exact(h3 D u).2
theorem ye{F:Fence}{n:Nat}{P:Program}{fn:Func}{tmps:Array Value}{R:Ending->World->Prop}{B:Nat}:∀(u:List Nat) (w:World),u.Nodup->(∀D∈u,B<=D/\w.heap[D]?=some (.deferred (some [])))->
  (∀w',Lq B w w'->∃v,(results fn tmps).run P w'=.ok v w'/\R (.returned v) w')->LeavesInM F n P fn tmps R (u.map (fun D=>{target:=.collected D,args:=#[]})) .returning w
 |[],w,_,_,h=>h w Lq.refl
 |D::u,w,O,I,h=>by
  have z:=I D (by simp);refine⟨by simp,.inl ⟨D,_,rfl,run_takeDeferred z.2,?_⟩⟩;refine ye (B:=B) u _ (List.nodup_cons.1 O).2 (fun E J=>?_) fun w' V=>h w' ?_
  ·have G:E≠D:=fun e=>(List.nodup_cons.1 O).1 (by rw[<- e];exact J);have:=I E (by simp[J]);exact⟨this.1,(World.putObj_heap_other G).trans this.2⟩
  ·refine(Lq.put z.1 z.2 rfl).trans V fun b o Q U=>?_;by_cases y:b=D
   ·subst y;exact⟨_,World.putObj_heap_same (Array.getElem?_eq_some_iff.1 z.2).1,rfl⟩
   ·exact⟨o,(World.putObj_heap_other y).trans Q,U⟩
end
section
variable {P:Program} {γ:Glob} {κ:Ctx} {fr:Fr} {L:Ls} {w:World}
def wK{A:Nat->Prop}{s:SV}{v:Value}{f:Nat}{Q bs:List SV}(h:c8 s=some (f,Q,bs))(hs:SR A L w s v):∃fs us:Array Value,v=.func (.func f) fs us/\Q.length=fs.size/\bs.length=us.size/\(∀(j:Nat) (x:SV) (u:Value),Q[j]?=some x->fs[j]?=some u->SR A L w x u)/\∀(j:Nat) (x:SV) (u:Value),bs[j]?=some x->us[j]?=some u->SR A L w x u:=by
 have I:∀{cs:List SV} {fs us:Array Value},(fs++us).size=cs.length->(∀(j:Nat) (x:SV) (u:Value),cs[j]?=some x->(fs++us)[j]?=some u->SR A L w x u)->(cs.take fs.size).length=fs.size/\(cs.drop fs.size).length=us.size/\(∀(j:Nat) (x:SV) (u:Value),(cs.take fs.size)[j]?=some x->fs[j]?=some u->SR A L w x u)/\∀(j:Nat) (x:SV) (u:Value),(cs.drop fs.size)[j]?=some x->us[j]?=some u->SR A L w x u:=fun{cs fs us} G z=>by
  rw[Array.size_append]at G;refine⟨by rw[List.length_take];omega,by rw[List.length_drop];omega,fun j x u y D=>?_,fun j x u y D=>?_⟩
  ·have U:=(Array.getElem?_eq_some_iff.1 D).1;rw[List.getElem?_take,if_pos U]at y;exact z j x u y (by rw[Array.getElem?_append_left U];exact D)
  ·rw[List.getElem?_drop]at y;exact z _ x u y (by rw[Array.getElem?_append_right (by omega),Nat.add_sub_cancel_left];exact D)
 unfold c8 at h;split at h
 ·rename_i V Z cs;cases h
  cases hs with
  |t _ _ hs=>
   cases hs with
   |fn _ _ fs us G z=>
    have O:(fs++us).size=(cs.map SV.t).length:=by rw[List.length_map];exact G
    have:=I (cs:=cs.map .t) (fs:=fs) (us:=us) O fun j x u y D=>by
     rw[List.getElem?_map]at y
     cases J:cs[j]? with
     |none=>rw[J]at y;cases y
     |some c=>rw[J]at y;cases y;exact .t _ _ (z j c u J D)
    rw[<- List.map_take,<- List.map_drop]at this;exact⟨fs,us,rfl,this⟩
 ·rename_i V Z cs;cases h
  cases hs with
  |fn _ _ fs us G z=>exact⟨fs,us,rfl,I G z⟩
 ·cases h
def Cd{g:Cfg}{C:CallF}{dr:Bool}{env:Env}{dst:Option Tmp}{ty:TypeId}{pos:String}{after:Array Edge}{gd:Option (Nat×Bool)}{c:Operand}{args:Array Operand}{tys:Array TypeId}{x:SV}{fr':Fr}{ks:List Nat}(hS:c7 g.P γ C)(h:jY g C dr env fr c args.toList=some (x,fr',ks)):
  cj g.P γ env fr ⟨dst,.call ⟨.value c,args,tys⟩,ty,pos,after,gd⟩ x fr' ks:=fun κ L a w hC O=>by
 unfold jY at h;split at h
 ·cases h
 ·rename_i f ps bs J;obtain⟨Q,us,hv,D,V,U,Z⟩:=wK J (bG (O c (by simp[Op.operands,Call.operands])))
  have G:∀(j:Nat) (s:SV) (u:Value),(args.toList.map (rd env))[j]?=some s->(args.toList.map a.eval)[j]?=some u->SR (MA κ.M fr L) L w s u:=fun j s u hs z=>by
   rw[List.getElem?_map]at hs z
   cases hy:args.toList[j]? with
   |none=>rw[hy]at hs;cases hs
   |some y=>
    rw[hy]at hs z;cases hs;cases z;exact bG (O y (by simp[Op.operands,Call.operands];exact .inr (by simpa using List.mem_of_getElem? hy)))
  obtain⟨hk,I⟩:=B8 hS h hC (Q.toList++args.toList.map a.eval++us.toList) (by simp[D,V]) fun j s u hs z=>by
   rcases Nat.lt_or_ge j (ps++args.toList.map (rd env)).length with h1|h1
   ·rw[List.getElem?_append_left h1]at hs;rw[List.getElem?_append_left (by simp at h1⊢;omega)]at z;rcases Nat.lt_or_ge j ps.length with h2|h2
    ·rw[List.getElem?_append_left h2]at hs;rw[List.getElem?_append_left (by simp;omega),Array.getElem?_toList]at z;exact U j s u hs z
    ·rw[List.getElem?_append_right h2]at hs;rw[List.getElem?_append_right (by simp;omega),Array.length_toList,<- D]at z;exact G _ s u hs z
   ·rw[List.getElem?_append_right h1]at hs;have e:(Q.toList++args.toList.map a.eval).length=(ps++args.toList.map (rd env)).length:=by simp[D]
    rw[List.getElem?_append_right (by omega),e,Array.getElem?_toList]at z;exact Z _ s u hs z
  refine .enter (f:=f) (args:=(Q.toList++args.toList.map a.eval++us.toList).toArray) ?_ (I.mono ?_)
  ·have e:(execOp a.eval ⟨dst,.call ⟨.value c,args,tys⟩,ty,pos,after,gd⟩).run g.P w=(callFunc f ((Q++args.map a.eval)++us)).run g.P w:=by
    simp[execOp,resolve,Deferred.ofValue,hv,invoke,Sem.run_bind,pure,Sem.run]
   rw[e,zP hk];congr 2;apply Array.ext';simp
  ·rintro e w' ⟨v,rfl,L',h1,h2,h3⟩;exact⟨v,rfl,L',h1,h2,h3⟩
def xd{g:Cfg}{C:CallF}{J:Bool}{env:Env}{o:Oper}{x:SV}{fr':Fr}{ks:List Nat}(O:c7 g.P γ C)(h:bu g C J env fr o.op=some (x,fr',ks)):cj g.P γ env fr o x fr' ks:=by
 obtain⟨dst,op,ty,pos,after,Z⟩:=o;simp only at h;unfold bu at h;split at h
 ·split at h
  ·rename_i G;cases h;exact Bn G
  ·cases h
 ·split at h
  ·rename_i G;cases h;exact BR G
  ·cases h
 ·exact H6 h
 ·split at h
  ·exact Fi h
  ·exact Fj h
 ·cases h;exact Fh
 ·exact xG (.inl rfl) h
 ·exact xG (.inr rfl) h
 ·rename_i t V I;split at h
  ·rename_i Q;split at h
   ·rename_i U;cases h;exact E6 U Q
   ·cases h
  ·cases h
 ·exact Cd O h
 ·split at h
  ·rename_i s y t u v z;split at h
   ·rename_i D;obtain rfl:t=u:=by simpa using D
    exact Bq v z h
   ·cases h
  ·cases h
 ·split at h
  ·rename_i y t v z;exact Cm v z h
  ·cases h
 ·split at h
  ·rename_i m k t u v z;exact CZ v z h
  ·cases h
 ·split at h
  ·rename_i x y t u v z;exact CT v z h
  ·cases h
 ·cases h
def pW{o:Option SV}{fr:Fr}{x:SV}{fr':Fr}{ks:List Nat}(h:pV fr o=some (x,fr',ks)):o=some x/\fr'=fr/\ks=[]:=by
 unfold pV at h;split at h
 ·cases h;exact⟨rfl,rfl,rfl⟩
 ·cases h
def fe(e:Env)(d:Nat)(v:SV):cB e d v d=v:=by unfold cB;simp
def my{e:Env}{d t:Nat}{v:SV}(h:t≠d):cB e d v t=e t:=by
 unfold cB;have:Nat.beq t d=false:=by rw[<- Bool.not_eq_true,Nat.beq_eq];exact h
 rw[this]
theorem vU:∀(l:List Operand) (t:Nat),t∈iF l->Operand.tmp t∈l
 |[],t,h=>by unfold iF at h;simp at h
 |y::l,t,h=>by
  unfold iF at h;split at h
  ·rename_i e;cases e
  ·rename_i u r e;cases e;rcases List.mem_cons.1 h with rfl|h
   ·exact List.mem_cons_self
   ·exact List.mem_cons_of_mem _ (vU _ t h)
  ·rename_i r _ e;cases e;exact List.mem_cons_of_mem _ (vU _ t h)
theorem AL{A:Nat->Prop}{L:Ls}{w:World}{env:Env}{val:Nat->Value}{t:Nat}(hb:SR A L w (env t) (val t)):∀(z:List Nat) (xs:List AV),(∀(j u:Nat) (x:AV),z[j]?=some u->xs[j]?=some x->VR A w x (val u))->SR A L w (ol env z xs t) (val t)
 |[],xs,_=>by unfold ol;exact hb
 |u::z,[],_=>by unfold ol;exact hb
 |u::z,x::xs,h=>by
  unfold ol;by_cases e:t=u
  ·subst e;rw[fe];exact .t _ _ (h 0 t x rfl rfl)
  ·rw[my e];exact AL hb z xs fun j v y h1 h2=>h (j+1) v y h1 h2
def Dl{P:Program}{env:Env}{o:Oper}{x:SV}{fr':Fr}{ks:List Nat}(h:tZ P env fr o.op=some (x,fr',ks)):cj P γ env fr o x fr' ks:=fun κ L a w U D=>by
 obtain⟨dst,op,ty,pos,after,gd⟩:=o;simp only at h D;unfold tZ at h;split at h
 ·rename_i t Q z;split at h
  ·cases h
  ·rename_i xs Z;unfold pV at h;split at h
   ·rename_i y O;cases h;obtain⟨G,I,V⟩:=U.jw (bg fr ((iF (z.toList.map (·.2))).map fun t=>un (env t)));obtain⟨x1,x2⟩:=mr U V _ _ Z (kZ U)
    have J:∀y,y∈z.toList.map (·.2)->y∈(Op.buildSlice t Q z).operands:=fun y O=>by
     obtain⟨p,hp,rfl⟩:=List.mem_map.1 O;simp[Op.operands];exact⟨p.1,by simpa using hp⟩
    have ad:∀(j u:Nat) (x:AV),(iF (z.toList.map (·.2)))[j]?=some u->xs[j]?=some x->VR (MA κ.M (freeze fr (bg fr ((iF (z.toList.map (·.2))).map fun t=>un (env t)))) L) w x (a.eval (.tmp u)):=fun j u x hu hx=>
     x2 j _ x _ (by rw[List.getElem?_map,hu];rfl) hx (mw (D _ (J _ (vU _ _ (List.mem_of_getElem? hu)))))
    have:=t_ (γ:=γ) (o:=⟨dst,.buildSlice t Q z,ty,pos,after,gd⟩) O κ L a w G fun y O=>by
     have h1:=I.sr (D y O)
     cases y with
     |tmp u=>exact AL (val:=fun u=>a.eval (.tmp u)) h1 _ _ ad
     |_=>exact h1
    exact this.mono fun v w' ⟨hb,hv⟩=>⟨L,I.trans (Tr.below hb),G.later hb,hv⟩
   ·cases h
 ·cases h
def ua{g:Cfg}{C:CallF}{env:Env}{o:Oper}{x:SV}{fr':Fr}{ks:List Nat}(u:c7 g.P γ C)(h:bJ g C env fr o.op=some (x,fr',ks)):cj g.P γ env fr o x fr' ks:=by
 unfold bJ at h;split at h
 ·exact xd u h
 ·split at h
  ·rename_i h1;cases h;exact(t_ h1).ok
  ·exact Dl h
def Dj{g:Cfg}{C:CallF}{env:Env}{o:Oper}{x:SV}{fr':Fr}{ks:List Nat}(u:c7 g.P γ C)(h:eX g C env fr o.op=some (x,fr',ks)):cj g.P γ env fr o x fr' ks:=by
 unfold eX at h;split at h
 ·exact xd u h
 ·obtain⟨h1,rfl,rfl⟩:=pW h;exact(t_ h1).ok
def fb{g:Cfg}{C:CallF}{d:Option (List Nat)}{i:Nat}{env:Env}{o:Oper}{x:SV}{fr':Fr}{ks:List Nat}(u:c7 g.P γ C)(h:step g C d i env fr o.op=some (x,fr',ks)):cj g.P γ env fr o x fr' ks:=by
 unfold step at h;split at h
 ·exact ua u h
 ·split at h
  ·exact ua u h
  ·exact Dj u h
end
def iG{e:Env}{d:Option Nat}{t:Nat}{x:SV}(h:d≠some t):aD e d x t=e t:=by
 cases d with
 |none=>rfl
 |some k=>exact my fun e=>h (by rw[e])
def kF{a:Act}{d:Nat}{v:Value}(h:d <a.tmps.size):(a.put (some d) v).tmps.getD d undef=v:=by
 show(a.tmps.setIfInBounds d v).getD d undef=v
 rw[Array.getD_eq_getD_getElem?,Array.getElem?_setIfInBounds_self_of_lt h];rfl
def ec{a:Act}{d:Option Nat}{t:Nat}{v:Value}(h:d≠some t):(a.put d v).tmps.getD t undef=a.tmps.getD t undef:=by
 cases d with
 |none=>rfl
 |some k=>
  show(a.tmps.setIfInBounds k v).getD t undef=_
  have u:k≠t:=fun e=>h (by rw[e]);rw[Array.getD_eq_getD_getElem?,Array.getElem?_setIfInBounds_ne u,<- Array.getD_eq_getD_getElem?]
def dz(a:Act)(d:Option Nat)(v:Value):(a.put d v).tmps.size=a.tmps.size:=by cases d <;>simp[Act.put]
def put_defers(a:Act)(d:Option Nat)(v:Value):(a.put d v).defers=a.defers:=by cases d <;>rfl
section
variable {A A':Nat->Prop} {L L':Ls} {w w':World}
def iY{env:Env}{a:Act}{d:Option Nat}{x:SV}{v:Value}(h:∀t,SR A L w (env t) (a.tmps.getD t undef))(hx:SR A L w x v)(hd:∀k,d=some k->k <a.tmps.size):
  ∀t,SR A L w (aD env d x t) ((a.put d v).tmps.getD t undef):=by
 intro t
 cases d with
 |none=>exact h t
 |some k=>
  by_cases u:t=k
  ·subst u;rw[kF (hd t rfl)];show SR A L w (cB env t x t) v
   rw[fe];exact hx
  ·rw[ec (by intro e;cases e;exact u rfl)];show SR A L w (cB env k x t) _
   rw[my u];exact h t
def yv:Option Value->Option Bool
 |some (.bool b)=>some b
 |_=>none
def DV{x:SV}{v:Value}{u W:Bool}(h:SR A L w x v)(hW:ut u x=some W):(yv (some v)==some u)=W:=by
 unfold ut at hW;split at hW
 ·obtain rfl:=jC h;cases hW;rename_i b;cases b <;>cases u <;>rfl
 ·cases h with
  |aN _ _ h=>
   obtain rfl:=jC h;cases hW;rename_i b;cases b <;>cases u <;>rfl
 ·cases h;cases hW;rfl
 ·cases hW
def mz{ops:Array Oper}{env:Env}{tmps:Array Value}{o:Oper}{j:Nat}{u W:Bool}(hg:o.guard=some (j,u))(hW:db ops env j u=some W)
  (h:∀d,(ops[j]?).bind (·.dst)=some d->SR A L w (env d) (tmps.getD d undef)/\d <tmps.size):Region.wanted o (yielded ops tmps)=W:=by
 unfold db at hW
 cases v:(ops[j]?).bind (·.dst)with
 |none=>rw[v]at hW;cases hW
 |some d=>
  rw[v]at hW;obtain⟨z,y⟩:=h d v
  have D:tmps[d]?=some (tmps.getD d undef):=by
   rw[Array.getD_eq_getD_getElem?,Array.getElem?_eq_getElem y];rfl
  have h2:yielded ops tmps j=yv (some (tmps.getD d undef)):=by
   show yv (((ops[j]?).bind (·.dst)).bind (tmps[·]?))=_
   rw[v,Option.bind_some,D]
  unfold Region.wanted;rw[hg];show(yielded ops tmps j==some u)=W
  rw[h2];exact DV z hW
end
def eG(n:Nat)(l:List Oper):Bool:=l.all fun o=>match o.dst with|some d=>Nat.blt d n|none=>true
def gD{n:Nat}{l:List Oper}(h:eG n l=true){o:Oper}(ho:o∈l){d:Nat}(hd:o.dst=some d):d <n:=by
 have:=List.all_eq_true.1 h o ho;rw[hd]at this;simpa[Nat.blt_eq]using this
def yT{rd:Option Nat}{dn:Nat}{g:Cfg}{γ:Glob}{C:CallF}(hS:c7 g.P γ C){ops:Array Oper}{n:Nat}{κ:Ctx}{Q:Exit->Act->World->Prop}{env':Env}{fr':Fr}(D:eG n ops.toList=true)
  (hK:∀L a w,Marks κ w a.defers->a.tmps.size=n->ar γ κ fr' L w->(∀t,SR (MA κ.M fr' L) L w (env' t) (a.tmps.getD t undef))->Q .normal a w):
  ∀(l:List Oper) (i:Nat) (env:Env) (fr:Fr) (L:Ls) (a:Act) (w:World),(∀o∈l,o∈ops.toList)->cH g C none ops i l env fr=some (env',fr')->Marks κ w a.defers->a.tmps.size=n->ar γ κ fr L w->(∀t,SR (MA κ.M fr L) L w (env t) (a.tmps.getD t undef))->wpListIn (Fw rd) dn g.P ops Q l a w:=by
 intro l
 induction l with
 |nil=>intro i env fr L a w _ h hd U G z;cases h;exact hK L a w hd U G z
 |cons o r ih=>
  intro i env fr L a w hm h hd U G z;have J:∀k,o.dst=some k->k <a.tmps.size:=fun k hk=>by rw[U];exact gD D (hm o (by simp)) hk
  have O:∀o'∈r,o'∈ops.toList:=fun o' ak=>hm o' (by simp[ak]);unfold cH at h;unfold wpListIn;split at h
  ·rename_i hg;rw[if_pos (by simp[Region.wanted,hg])];split at h
   ·rename_i x ag ks Z;refine(fb hS Z κ L a w G (fun y _=>j4 z y)).wpIn fun v w' ⟨L',hT,I,hv⟩=>?_;exact ih _ _ _ L' _ _ O h (by rw[put_defers];exact hd.tr G hT) (by rw[dz,U]) I (iY (fun t=>hT.env (z t)) hv J)
   ·cases h
  ·rename_i j af hg
   have ad:∀W,db ops env j af=some W->Region.wanted o (yielded ops a.tmps)=W:=fun W hW=>mz hg hW fun d u=>by
    refine⟨z d,?_⟩;rw[U]
    cases V:ops[j]? with
    |none=>rw[V]at u;cases u
    |some oj=>
     rw[V]at u;exact gD D (Array.mem_toList_iff.2 (Array.mem_of_getElem? V)) u
   split at h
   ·cases h
   ·rename_i hW;rw[ad _ hW,if_pos rfl];split at h
    ·rename_i x ag ks Z;refine(fb hS Z κ L a w G (fun y _=>j4 z y)).wpIn fun v w' ⟨L',hT,I,hv⟩=>?_;exact ih _ _ _ L' _ _ O h (by rw[put_defers];exact hd.tr G hT) (by rw[dz,U]) I (iY (fun t=>hT.env (z t)) (.aN _ _ hv) J)
    ·cases h
   ·rename_i hW;rw[ad _ hW,if_neg (by simp)];refine⟨fun _ _=>trivial,ih _ _ _ L _ _ O h (by rw[put_defers];exact hd) (by rw[dz,U]) G ?_⟩;exact iY z .no J
def FR{rd:Option Nat}{dn:Nat}{g:Cfg}{γ:Glob}{C:CallF}(hS:c7 g.P γ C){ops:Array Oper}{n:Nat}{κ:Ctx}{Q:Exit->Act->World->Prop}{env':Env}{fr':Fr}{l2:List Oper}(D:eG n ops.toList=true)
  (hK:∀L a w,Marks κ w a.defers->a.tmps.size=n->ar γ κ fr' L w->(∀t,SR (MA κ.M fr' L) L w (env' t) (a.tmps.getD t undef))->wpListIn (Fw rd) dn g.P ops Q l2 a w):
  ∀(l:List Oper) (i:Nat) (env:Env) (fr:Fr) (L:Ls) (a:Act) (w:World),(∀o∈l,o∈ops.toList)->cH g C none ops i l env fr=some (env',fr')->Marks κ w a.defers->a.tmps.size=n->ar γ κ fr L w->(∀t,SR (MA κ.M fr L) L w (env t) (a.tmps.getD t undef))->wpListIn (Fw rd) dn g.P ops Q (l++l2) a w:=by
 intro l
 induction l with
 |nil=>intro i env fr L a w _ h hd U G z;cases h;exact hK L a w hd U G z
 |cons o r ih=>
  intro i env fr L a w hm h hd U G z;have J:∀k,o.dst=some k->k <a.tmps.size:=fun k hk=>by rw[U];exact gD D (hm o (by simp)) hk
  have O:∀o'∈r,o'∈ops.toList:=fun o' ak=>hm o' (by simp[ak]);unfold cH at h;rw[List.cons_append];unfold wpListIn;split at h
  ·rename_i hg;rw[if_pos (by simp[Region.wanted,hg])];split at h
   ·rename_i x ag ks Z;refine(fb hS Z κ L a w G (fun y _=>j4 z y)).wpIn fun v w' ⟨L',hT,I,hv⟩=>?_;exact ih _ _ _ L' _ _ O h (by rw[put_defers];exact hd.tr G hT) (by rw[dz,U]) I (iY (fun t=>hT.env (z t)) hv J)
   ·cases h
  ·rename_i j af hg
   have ad:∀W,db ops env j af=some W->Region.wanted o (yielded ops a.tmps)=W:=fun W hW=>mz hg hW fun d u=>by
    refine⟨z d,?_⟩;rw[U]
    cases V:ops[j]? with
    |none=>rw[V]at u;cases u
    |some oj=>
     rw[V]at u;exact gD D (Array.mem_toList_iff.2 (Array.mem_of_getElem? V)) u
   split at h
   ·cases h
   ·rename_i hW;rw[ad _ hW,if_pos rfl];split at h
    ·rename_i x ag ks Z;refine(fb hS Z κ L a w G (fun y _=>j4 z y)).wpIn fun v w' ⟨L',hT,I,hv⟩=>?_;exact ih _ _ _ L' _ _ O h (by rw[put_defers];exact hd.tr G hT) (by rw[dz,U]) I (iY (fun t=>hT.env (z t)) (.aN _ _ hv) J)
    ·cases h
   ·rename_i hW;rw[ad _ hW,if_neg (by simp)];refine⟨fun _ _=>trivial,ih _ _ _ L _ _ O h (by rw[put_defers];exact hd) (by rw[dz,U]) G ?_⟩;exact iY z .no J
def tmpsOf(o:Oper):List Nat:=o.op.operands.toList.filterMap fun|.tmp t=>some t|_=>none
def cK(o:Oper)(k:Nat):Bool:=o.after.any fun e=>Region.binds .any e&&Nat.beq e.on k
def kW(ops:Array Oper)(i:Nat)(o:Oper):Bool:=
 (o.after.all fun e=>!Region.binds .any e ||Nat.blt e.on i)&&
 (match o.guard with|some (j,_)=>cK o j|none=>true)&&
 (List.range ops.size).all fun k=>match ops[k]? with
  |none=>true
  |some ok=>Nat.beq k i ||match ok.dst with
   |none=>true
   |some d=>(match o.dst with|some u=>!Nat.beq d u|none=>true)&&((tmpsOf o).all fun t=>!Nat.beq t d ||cK o k ||cK ok i)
def effOk(ops:Array Oper)(effs:List Nat):Bool:=match effs with
 |[]=>true
 |_=>effs.all fun i=>(List.range ops.size).all fun k=>Nat.beq k i ||(match Nat.blt k i with|true=>((Region.before ops).getD i 0).testBit k|false=>((Region.before ops).getD k 0).testBit i)
def qv(ops:Array Oper)(effs:List Nat):Bool:=((List.range ops.size).all fun i=>match ops[i]? with|none=>true|some o=>kW ops i o)&&effs.all fun i=>effs.all fun k=>!Nat.blt k i ||(Nat.ble ops.size i ||((Region.before ops).getD i 0).testBit k)
def tL(ops:Array Oper)(effs:List Nat):Bool:=((List.range ops.size).all fun i=>match ops[i]? with|none=>true|some o=>kW ops i o)&&effOk ops effs
def AN(ops:Array Oper)(N m k:Nat):Bool:=match ops[N+k]?,ops[N+m+k]? with
 |some v,some u=>match v.dst,v.op,u.op with
  |some d,.alloc _,.store _ (.tmp d') x=>Nat.beq d d'&&v.guard.isNone&&u.guard.isNone&&u.dst.isNone&&cK u (N+k)&&(match x with|.tmp t=>!Nat.beq t d|_=>true)&&(List.range ops.size).all fun j=>match ops[j]? with
   |some o=>Nat.beq j (N+m+k)||!bi (tmpsOf o) d
   |none=>true
  |_,_,_=>false
 |_,_=>false
def qu(ops:Array Oper)(effs:List Nat):Bool:=match effs with
 |[]=>false
 |N::r=>((List.range ops.size).all fun i=>match ops[i]? with|none=>true|some o=>kW ops i o)&&Nat.beq ops.size (N+(N::r).length)&&Nat.beq (N::r).length ((N::r).length/2+(N::r).length/2)&&(N::r)==(List.range (N::r).length).map (N+·)&&(List.range ((N::r).length/2)).all (AN ops N ((N::r).length/2))
def fQ{o:Oper}{k:Nat}(h:cK o k=true):∃e∈o.after,Region.binds .any e=true/\e.on=k:=by
 unfold cK at h;rw[Array.any_eq_true]at h;obtain⟨i,u,h⟩:=h;rw[Bool.and_eq_true]at h;exact⟨o.after[i],Array.getElem_mem u,h.1,by simpa using h.2⟩
inductive eE (ops:Array Oper):Nat->Nat->Prop where
 |one (i:Nat) (o:Oper) (e:Edge):ops[i]?=some o->e∈o.after->Region.binds .any e=true->eE ops i e.on
 |more (i k:Nat) (o:Oper) (e:Edge):ops[i]?=some o->e∈o.after->Region.binds .any e=true->eE ops e.on k->eE ops i k
def qd(u:Array Nat)(o:Oper):Nat:=o.after.foldl (fun s e=>if Region.binds .any e then s |||2^e.on |||u.getD e.on 0 else s) 0
def Bo{u:Array Nat}{o:Oper}{k:Nat}(h:(qd u o).testBit k=true):∃e∈o.after,Region.binds .any e=true/\(e.on=k\/(u.getD e.on 0).testBit k=true):=by
 unfold qd at h;rw[<- Array.foldl_toList]at h
 have y:∀(l:List Edge) (s:Nat),(l.foldl (fun s e=>if Region.binds .any e then s |||2^e.on |||u.getD e.on 0 else s) s).testBit k=true->s.testBit k=true\/∃e∈l,Region.binds .any e=true/\(e.on=k\/(u.getD e.on 0).testBit k=true):=fun l=>by
  induction l with
  |nil=>intro s h;exact .inl h
  |cons e l G=>
   intro s h;rw[List.foldl_cons]at h;rcases G _ h with h|⟨D,v,h1,h2⟩
   ·split at h
    ·rename_i z;rw[Nat.testBit_or,Nat.testBit_or,Bool.or_eq_true,Bool.or_eq_true]at h;rcases h with(h|h)|h
     ·exact .inl h
     ·rw[Nat.testBit_two_pow,decide_eq_true_iff]at h;exact .inr ⟨e,by simp,z,.inl h⟩
     ·exact .inr ⟨e,by simp,z,.inr h⟩
    ·exact .inl h
   ·exact .inr ⟨D,by simp[v],h1,h2⟩
 rcases y _ _ h with h|⟨e,v,h⟩
 ·simp at h
 ·exact⟨e,Array.mem_toList_iff.1 v,h⟩
def jW{ops:Array Oper}{i k:Nat}(h:((Region.before ops).getD i 0).testBit k=true):eE ops i k:=by
 have y:∀(l:List Oper) (u:Array Nat),(∀(q:Nat) (o:Oper),l[q]?=some o->ops[u.size+q]?=some o)->(∀i k,(u.getD i 0).testBit k=true->eE ops i k)->∀i k,((l.foldl (fun u o=>u.push (qd u o)) u).getD i 0).testBit k=true->eE ops i k:=fun l=>by
  induction l with
  |nil=>intro u _ h2 i k h;exact h2 i k h
  |cons o l J=>
   intro u h1 h2 i k h;rw[List.foldl_cons]at h;refine J _ (fun q O v=>?_) (fun i k h=>?_) i k h
   ·have:=h1 (q+1) O (by simpa using v);rw[Array.size_push,Nat.add_assoc,Nat.add_comm 1 q];exact this
   ·rw[Array.getD_eq_getD_getElem?,Array.getElem?_push]at h;split at h
    ·rename_i I;subst I;obtain⟨e,D,z,h3⟩:=Bo h;have G:ops[u.size]?=some o:=by have:=h1 0 o rfl;rwa[Nat.add_zero]at this
     rcases h3 with h3|h3
     ·subst h3;exact .one _ o e G D z
     ·exact .more _ k o e G D z (h2 _ _ h3)
    ·rw[<- Array.getD_eq_getD_getElem?]at h;exact h2 i k h
 refine y ops.toList #[] (fun q o v=>by simpa using v) (fun i k h=>by simp at h) i k ?_
 have e:Region.before ops=ops.toList.foldl (fun u o=>u.push (qd u o)) #[]:=by
  unfold Region.before;rw[<- Array.foldl_toList];rfl
 rw[<- e];exact h
structure ox (ops:Array Oper) (effs:List Nat):Prop where
 back:∀(i:Nat) (o:Oper),ops[i]?=some o->∀e∈o.after,Region.binds .any e=true->e.on <i
 guard:∀(i:Nat) (o:Oper) (j:Nat) (want:Bool),ops[i]?=some o->o.guard=some (j,want)->cK o j=true
 dst:∀(i:Nat) (o:Oper) (k:Nat) (ok:Oper) (d:Nat),ops[i]?=some o->ops[k]?=some ok->k≠i->ok.dst=some d->o.dst≠some d
 use:∀(i:Nat) (o:Oper) (k:Nat) (ok:Oper) (d:Nat),ops[i]?=some o->ops[k]?=some ok->k≠i->ok.dst=some d->.tmp d∈o.op.operands->cK o k=true\/cK ok i=true
 eff:∀i∈effs,∀k,k <ops.size->(k <i->eE ops i k)/\(i <k->eE ops k i)
structure DrawB (ops:Array Oper):Prop where
 back:∀(i:Nat) (o:Oper),ops[i]?=some o->∀e∈o.after,Region.binds .any e=true->e.on <i
 guard:∀(i:Nat) (o:Oper) (j:Nat) (want:Bool),ops[i]?=some o->o.guard=some (j,want)->cK o j=true
 dst:∀(i:Nat) (o:Oper) (k:Nat) (ok:Oper) (d:Nat),ops[i]?=some o->ops[k]?=some ok->k≠i->ok.dst=some d->o.dst≠some d
 use:∀(i:Nat) (o:Oper) (k:Nat) (ok:Oper) (d:Nat),ops[i]?=some o->ops[k]?=some ok->k≠i->ok.dst=some d->.tmp d∈o.op.operands->cK o k=true\/cK ok i=true
def tK{ops:Array Oper}(h:((List.range ops.size).all fun i=>match ops[i]? with|none=>true|some o=>kW ops i o)=true):DrawB ops:=by
 have J:∀i o,ops[i]?=some o->kW ops i o=true:=fun i o v=>by
  have D:i <ops.size:=(Array.getElem?_eq_some_iff.1 v).1;have:=List.all_eq_true.1 h i (List.mem_range.2 D);simpa[v]using this
 have Q:∀i o k ok,ops[i]?=some o->ops[k]?=some ok->k≠i->∀d,ok.dst=some d->(∀I,o.dst=some I->d≠I)/\∀t∈tmpsOf o,t=d->(cK o k=true\/cK ok i=true):=fun i o k ok v u y d G=>by
  have h1:=J i o v;unfold kW at h1;rw[Bool.and_eq_true]at h1;have D:k <ops.size:=(Array.getElem?_eq_some_iff.1 u).1;have h2:=List.all_eq_true.1 h1.2 k (List.mem_range.2 D);simp only[u,G]at h2;have h3:Nat.beq k i=false:=by rw[<- Bool.not_eq_true,Nat.beq_eq];exact y
  rw[h3,Bool.false_or,Bool.and_eq_true]at h2;refine⟨fun I z=>?_,fun t ht O=>?_⟩
  ·have:=h2.1;rw[z]at this;intro e;subst e;simp at this
  ·have h4:=List.all_eq_true.1 h2.2 t ht;subst O;simpa using h4
 refine⟨fun i o v e Z V=>?_,fun i o j U v hg=>?_,fun i o k ok d v u y G z=>(Q i o k ok v u y d G).1 d z rfl,fun i o k ok d v u y G hm=>(Q i o k ok v u y d G).2 d ?_ rfl⟩
 ·have h1:=J i o v;unfold kW at h1;rw[Bool.and_eq_true,Bool.and_eq_true]at h1;have h2:=(Array.all_eq_true_iff_forall_mem.1 h1.1.1) e Z;rw[V]at h2;simpa[Nat.blt_eq]using h2
 ·have h1:=J i o v;unfold kW at h1;rw[Bool.and_eq_true,Bool.and_eq_true]at h1;have h2:=h1.1.2;rw[hg]at h2;exact h2
 ·unfold tmpsOf;rw[List.mem_filterMap];exact⟨.tmp d,Array.mem_toList_iff.2 hm,rfl⟩
def C3{ops:Array Oper}{effs:List Nat}(h:tL ops effs=true):ox ops effs:=by
 unfold tL at h;rw[Bool.and_eq_true]at h;obtain⟨h,G⟩:=h;have y:=tK h;refine⟨y.back,y.guard,y.dst,y.use,fun i u k I=>?_⟩;unfold effOk at G;split at G
 ·cases u
 ·have h1:=List.all_eq_true.1 (List.all_eq_true.1 G i u) k (List.mem_range.2 I);refine⟨fun v=>?_,fun v=>?_⟩
  ·have z:Nat.beq k i=false:=by rw[<- Bool.not_eq_true,Nat.beq_eq];omega
   have D:Nat.blt k i=true:=by rw[Nat.blt_eq];exact v
   rw[z,D,Bool.false_or]at h1;exact jW h1
  ·have z:Nat.beq k i=false:=by rw[<- Bool.not_eq_true,Nat.beq_eq];omega
   have D:Nat.blt k i=false:=by rw[<- Bool.not_eq_true,Nat.blt_eq];omega
   rw[z,D,Bool.false_or]at h1;exact jW h1
structure mC (ops:Array Oper) (effs:List Nat):Prop extends DrawB ops where
 eff:∀i∈effs,∀k∈effs,i <ops.size->k <i->eE ops i k
def w6{ops:Array Oper}{effs:List Nat}(h:qv ops effs=true):mC ops effs:=by
 unfold qv at h;rw[Bool.and_eq_true]at h;obtain⟨h,z⟩:=h;refine{tK h with eff:=fun i D k G hs u=>?_};have h1:=List.all_eq_true.1 (List.all_eq_true.1 z i D) k G;have v:Nat.blt k i=true:=by rw[Nat.blt_eq];exact u
 have y:Nat.ble ops.size i=false:=by rw[<- Bool.not_eq_true,Nat.ble_eq];omega
 rw[v,y]at h1;exact jW (by simpa using h1)
def dR(listed:Array Bool)(n:Nat):Nat:=(List.range n).countP fun i=>!listed.getD i true
theorem oo{listed:Array Bool}{i:Nat}(hi:listed.getD i true=false):∀n,dR (listed.setIfInBounds i true) n+(if i <n then 1 else 0)=dR listed n
 |0=>by simp[dR]
 |n+1=>by
  have v:=oo hi n
  have y:i <listed.size:=by
   rcases Nat.lt_or_ge i listed.size with h|h
   ·exact h
   ·rw[Array.getD_eq_getD_getElem?,Array.getElem?_eq_none h]at hi;cases hi
  unfold dR at v⊢;rw[List.range_succ,List.countP_append,List.countP_append];by_cases u:i=n
  ·subst u
   have h1:(listed.setIfInBounds i true).getD i true=true:=by
    rw[Array.getD_eq_getD_getElem?,Array.getElem?_setIfInBounds_self_of_lt y];rfl
   simp only[List.countP_cons,List.countP_nil,h1,hi]at v⊢;simp at v⊢;omega
  ·have h1:(listed.setIfInBounds i true).getD n true=listed.getD n true:=by
    rw[Array.getD_eq_getD_getElem?,Array.getElem?_setIfInBounds_ne u,<- Array.getD_eq_getD_getElem?]
   simp only[List.countP_cons,List.countP_nil,h1]at v⊢
   have D:(if i <n+1 then 1 else 0)=(if i <n then 1 else 0):=by
    by_cases h2:i <n
    ·rw[if_pos h2,if_pos (by omega)]
    ·rw[if_neg h2,if_neg (by omega)]
   rw[D];generalize(if i <n then 1 else 0)=z at*
   omega
def fz{listed:Array Bool}{k:Nat}(h:listed.getD k false=true):listed.getD k true=true:=by
 rw[Array.getD_eq_getD_getElem?]at h⊢
 cases u:listed[k]? with
 |none=>rfl
 |some b=>rw[u]at h;exact h
def xx{listed:Array Bool}{k:Nat}(hk:k <listed.size)(h:listed.getD k true=true):listed.getD k false=true:=by
 rw[Array.getD_eq_getD_getElem?,Array.getElem?_eq_getElem hk]at h⊢;exact h
def pS{listed:Array Bool}:∀n,dR listed n=0->∀k,k <n->listed.getD k true=true:=by
 intro n h k u;unfold dR at h;rw[List.countP_eq_zero]at h;have:=h k (List.mem_range.2 u);simpa using this
end Go.Proofs.YtgbfedgghjcdcaaGreatDoor
