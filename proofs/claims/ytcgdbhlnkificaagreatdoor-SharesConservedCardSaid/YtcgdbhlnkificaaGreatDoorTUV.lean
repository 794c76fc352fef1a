/- Law 40: plain law of SharesConserved and SharesExclude:. No condition. -/
import Derived.Test.YtcgdbhlnkificaaGreatDoorUN
import Derived.Test.YtcgdbhlnkificaaGreatDoorUK
import Derived.Test.YtcgdbhlnkificaaGreatDoorTKA
import Derived.Test.YtcgdbhlnkificaaGreatDoorTUM
import Derived.Test.YtcgdbhlnkificaaGreatDoorTLQ
set_option linter.all false
namespace Go.Proofs.YtcgdbhlnkificaaGreatDoor
open Go.RowKit
set_option maxRecDepth 100000
def SE{z:aO}{s t:jX}(h1:t.i=s.i)(h2:t.k=s.k)(h3:t.r=s.r):pE z s=pE z t:=by unfold pE;rw[h1,h2,h3]
def Rv{z:aO}{i k:Nat}{X:List (List Int)}{Y:List Int}(u:z[i]?=some X)(v:X[k]?=some Y):rowAt z i k=Y:=by
 unfold rowAt;rw[List.getD_eq_getElem?_getD,List.getD_eq_getElem?_getD,u,Option.getD_some,v];rfl
def Sa{z:aO}{s:jX}(t:jX)(hs:mO z s):pE (cE z s) t=if t.i=s.i/\t.k=s.k/\t.r=s.r then IntKind.i64.wrap (pE z s+s.a)else pE z t:=by
 obtain⟨X,Y,n,G,I,U,J,u⟩:=qZ hs;rw[u,J];have v:=Sk G I (Y.set s.r (IntKind.i64.wrap (n+s.a))) t.i t.k;show(rowAt (z.set s.i (X.set s.k (Y.set s.r (IntKind.i64.wrap (n+s.a))))) t.i t.k).getD t.r 0=_
 rw[v];by_cases h:t.i=s.i/\t.k=s.k
 ·rw[if_pos h];by_cases D:t.r=s.r
  ·rw[if_pos ⟨h.1,h.2,D⟩,D,List.getD_eq_getElem?_getD,List.getElem?_set_self (aC U)];rfl
  ·rw[if_neg (fun y=>D y.2.2),List.getD_eq_getElem?_getD,List.getElem?_set_ne (Ne.symm D)];show _=(rowAt z t.i t.k).getD t.r 0
   rw[h.1,h.2,Rv G I,List.getD_eq_getElem?_getD]
 ·rw[if_neg h,if_neg (fun y=>h ⟨y.1,y.2.1⟩)];rfl
def QW(t:jX)(e:Ev):Int:=if gE e=true/\e.gi.toNat=t.i/\e.ge.toNat=t.k then(if e.to.toNat=t.r then e.ga else 0) - (if e.r.toNat=t.r then e.ga else 0)else 0
def SY{z:aO}{e:Ev}(ht:gE e=true):cS z e=cE (cE z ⟨e.gi.toNat,e.ge.toNat,e.r.toNat,0 - e.ga⟩) ⟨e.gi.toNat,e.ge.toNat,e.to.toNat,e.ga⟩:=by unfold cS ij;rw[if_pos ht];rfl
def S6{z:aO}{e:Ev}{t:jX}(h:iS z e)(hb : -1000000000<=pE z t/\pE z t<=1000000000):pE (cS z e) t=pE z t+QW t e:=by
 cases G:gE e with
 |false=>
  rw[F7 G];unfold QW;rw[if_neg (by rw[G];simp)];omega
 |true=>
  obtain⟨_,⟨V,Z⟩,_⟩:=h G;have J:=(h.ol G (0 - e.ga)).1;have U:=((h.qs (qq J)).ol G e.ga).2
  have I:pE (cE z ⟨e.gi.toNat,e.ge.toNat,e.r.toNat,0 - e.ga⟩) t=if t.i=e.gi.toNat/\t.k=e.ge.toNat/\t.r=e.r.toNat then pE z t - e.ga else pE z t:=by
   rw[Sa t J];dsimp only;split
   ·rename_i u;rw[SE (s:=⟨e.gi.toNat,e.ge.toNat,e.r.toNat,0 - e.ga⟩) (t:=t) u.1 u.2.1 u.2.2,IntWalk.i64_in _ (by omega)];omega
   ·rfl
  rw[SY G,Sa t U];dsimp only;unfold QW;by_cases v:t.i=e.gi.toNat/\t.k=e.ge.toNat
  ·rw[if_pos (show gE e=true/\e.gi.toNat=t.i/\e.ge.toNat=t.k from⟨G,v.1.symm,v.2.symm⟩)];by_cases y:t.r=e.to.toNat
   ·rw[if_pos ⟨v.1,v.2,y⟩,SE (s:=⟨e.gi.toNat,e.ge.toNat,e.to.toNat,e.ga⟩) (t:=t) v.1 v.2 y,I,if_pos y.symm];by_cases D:t.r=e.r.toNat
    ·rw[if_pos ⟨v.1,v.2,D⟩,if_pos D.symm,IntWalk.i64_in _ (by omega)];omega
    ·rw[if_neg (fun u=>D u.2.2),if_neg (fun u=>D u.symm),IntWalk.i64_in _ (by omega)];omega
   ·rw[if_neg (fun u=>y u.2.2),I,if_neg (show¬e.to.toNat=t.r from fun u=>y u.symm)];by_cases D:t.r=e.r.toNat
    ·rw[if_pos (show t.i=e.gi.toNat/\t.k=e.ge.toNat/\t.r=e.r.toNat from⟨v.1,v.2,D⟩),if_pos D.symm];omega
    ·rw[if_neg (show¬(t.i=e.gi.toNat/\t.k=e.ge.toNat/\t.r=e.r.toNat) from fun u=>D u.2.2),if_neg (show¬e.r.toNat=t.r from fun u=>D u.symm)];omega
  ·rw[if_neg (fun u=>v ⟨u.1,u.2.1⟩),I,if_neg (fun u=>v ⟨u.1,u.2.1⟩),if_neg (fun u=>v ⟨u.2.1.symm,u.2.2.symm⟩)];omega
def To{z:aO}{e:Ev}(h:iS z e)(t:jX): -1000000<=QW t e/\QW t e<=1000000:=by
 unfold QW;split
 ·rename_i u;obtain⟨_,⟨v,y⟩,_⟩:=h u.1;split <;>split <;>omega
 ·omega
def R4{z:aO}{e:Ev}(h:iS z e){t:jX}(hr:e.r.toNat≠t.r):0<=QW t e:=by
 unfold QW;split
 ·rename_i u;obtain⟨_,⟨v,y⟩,_⟩:=h u.1;have D:(if e.r.toNat=t.r then e.ga else 0)=0:=if_neg hr;split <;>omega
 ·omega
def Bd(z:aO)(B:Int):Prop:=∀t:jX,-B<=pE z t/\pE z t<=B
def SU{z:aO}{s:jX}(hs:mO z s)(hb : -2000000000<=pE z s+s.a/\pE z s+s.a<=2000000000)(i k:Nat):j0 (rowAt (cE z s) i k)=j0 (rowAt z i k)+if i=s.i/\k=s.k then s.a else 0:=by
 obtain⟨X,Y,n,v,y,I,G,u⟩:=qZ hs;rw[G]at hb;rw[u,Sk v y];split
 ·rename_i D;rw[D.1,D.2,Rv v y,Rx I,IntWalk.i64_in _ (by omega)];omega
 ·omega
def TX{z:aO}{e:Ev}{B:Int}(h:iS z e)(hb:Bd z B)(V:B<=1000000000)(i k:Nat):j0 (rowAt (cS z e) i k)=j0 (rowAt z i k):=by
 cases u:gE e with
 |false=>rw[F7 u]
 |true=>
  obtain⟨_,⟨J,U⟩,_⟩:=h u;have v:=(h.ol u (0 - e.ga)).1;have y:=((h.qs (qq v)).ol u e.ga).2;have D:=hb ⟨e.gi.toNat,e.ge.toNat,e.r.toNat,0 - e.ga⟩;have G:=hb ⟨e.gi.toNat,e.ge.toNat,e.to.toNat,e.ga⟩
  have I : -1001000000<=pE (cE z ⟨e.gi.toNat,e.ge.toNat,e.r.toNat,0 - e.ga⟩) ⟨e.gi.toNat,e.ge.toNat,e.to.toNat,e.ga⟩/\pE (cE z ⟨e.gi.toNat,e.ge.toNat,e.r.toNat,0 - e.ga⟩) ⟨e.gi.toNat,e.ge.toNat,e.to.toNat,e.ga⟩<=1001000000:=by
   rw[Sa _ v];dsimp only;split
   ·rw[IntWalk.i64_in _ (by omega)];omega
   ·omega
  rw[SY u,SU y (by dsimp only;omega),SU v (by dsimp only;omega)];dsimp only;split <;>omega
theorem S5:∀(E:List Ev) (z:aO) (B:Int),(∀e∈E,iS z e)->Bd z B->B+1000000*E.length<=1000000000->(∀t,pE (E.foldl cS z) t=pE z t+j0 (E.map (QW t)))/\∀i k,j0 (rowAt (E.foldl cS z) i k)=j0 (rowAt z i k)
 |[],z,B,_,_,_=>⟨fun t=>by unfold j0;simp,fun _ _=>rfl⟩
 |e::E,z,B,h,y,J=>by
  have v:=h e (by simp);have u:((e::E).length:Int)=E.length+1:=by simp
  rw[u]at J;have hs:=fun t=>S6 (t:=t) v (by have:=y t;omega);have G:eG z (cS z e):=Ha v (eG.refl z)
  have D:Bd (cS z e) (B+1000000):=fun t=>by
   rw[hs t];have h1:=y t;have h2:=To v t;omega
  obtain⟨I,a2⟩:=S5 E (cS z e) (B+1000000) (fun x U=>(h x (by simp[U])).qs G) D (by omega);refine⟨fun t=>?_,fun i k=>?_⟩
  ·show pE (E.foldl cS (cS z e)) t=_
   rw[I,hs,List.map_cons,Q0];omega
  ·show j0 (rowAt (E.foldl cS (cS z e)) i k)=_
   rw[a2];exact TX v y (by omega) i k
theorem RV{α:Type}{w:α->Int}{P Q:α->Bool}:∀{l:List α},(∀x∈l,P x=true->Q x=true)->(∀x∈l,Q x=true->P x=false->0<=w x)->j0 ((l.filter P).map w)<=j0 ((l.filter Q).map w)
 |[],_,_=>Int.le_refl _
 |x::l,h1,h2=>by
  have I:=RV (w:=w) (P:=P) (Q:=Q) (l:=l) (fun y G=>h1 y (by simp[G])) (fun y G=>h2 y (by simp[G]))
  cases v:P x with
  |true=>
   have u:=h1 x (by simp) v;rw[List.filter_cons_of_pos v,List.filter_cons_of_pos u,List.map_cons,List.map_cons,Q0,Q0];omega
  |false=>
   have z:¬P x=true:=by rw[v];decide
   rw[List.filter_cons_of_neg z]
   cases u:Q x with
   |true=>
    have:=h2 x (by simp) u v;rw[List.filter_cons_of_pos u,List.map_cons,Q0];omega
   |false=>
    have D:¬Q x=true:=by rw[u];decide
    rw[List.filter_cons_of_neg D];exact I
theorem S4{α:Type}{w:α->Int}{P Q:α->Bool}:∀{l:List α},(∀x∈l,P x=true->Q x=false)->j0 ((l.filter fun x=>P x ||Q x).map w)=j0 ((l.filter P).map w)+j0 ((l.filter Q).map w)
 |[],_=>by unfold j0;simp
 |x::l,h=>by
  have I:=S4 (w:=w) (P:=P) (Q:=Q) (l:=l) (fun y G=>h y (by simp[G]))
  cases v:P x with
  |true=>
   have z:=h x (by simp) v;have u:¬Q x=true:=by rw[z];decide
   rw[List.filter_cons_of_pos (by rw[v];rfl),List.filter_cons_of_pos v,List.filter_cons_of_neg u,List.map_cons,List.map_cons,Q0,Q0];omega
  |false=>
   have D:¬P x=true:=by rw[v];decide
   rw[List.filter_cons_of_neg D]
   cases z:Q x with
   |true=>
    rw[List.filter_cons_of_pos (by rw[v,z];rfl),List.filter_cons_of_pos z,List.map_cons,List.map_cons,Q0,Q0];omega
   |false=>
    have u:¬Q x=true:=by rw[z];decide
    rw[List.filter_cons_of_neg (by rw[v,z];decide),List.filter_cons_of_neg u];exact I
theorem SC:∀{l:List Ev},(l.map nm).Nodup->∀{e:Ev},e∈l->l.filter (fun f=>decide (nm f=nm e))=[e]
 |[],_,e,he=>by cases he
 |x::l,u,e,he=>by
  rw[List.map_cons,List.nodup_cons]at u;rcases List.mem_cons.1 he with rfl|he
  ·rw[List.filter_cons_of_pos (by simp)];congr 1;rw[List.filter_eq_nil_iff];intro f z;simp only[decide_eq_true_eq];intro v;exact u.1 (List.mem_map.2 ⟨f,z,v⟩)
  ·rw[List.filter_cons_of_neg (by
    simp only[decide_eq_true_eq];intro y;exact u.1 (List.mem_map.2 ⟨e,he,y.symm⟩))]
   exact SC u.2 he
theorem SO:∀{L:List Ev},L≠[]->∃e∈L,∀f∈L,f.n<=e.n
 |[],h=>absurd rfl h
 |[e],_=>⟨e,by simp,fun f u=>by simp at u;rw[u];exact Int.le_refl _⟩
 |x::y::L,_=>by
  obtain⟨e,v,z⟩:=SO (L:=y::L) (by simp);by_cases h:x.n<=e.n
  ·refine⟨e,by simp only[List.mem_cons]at v⊢;exact .inr v,fun f u=>?_⟩;rcases List.mem_cons.1 u with rfl|u
   ·exact h
   ·exact z f u
  ·refine⟨x,by simp,fun f u=>?_⟩;rcases List.mem_cons.1 u with rfl|u
   ·exact Int.le_refl _
   ·have:=z f u;omega
def RW{m:Md}{p:Pln}{N:Int}{l:aO}(h:cT m p N l=true)(t:jX):0<=pE l t/\pE l t<=5:=by
 obtain⟨_,D,_,y⟩:=lU.1 h;unfold pE;rw[List.getD_eq_getElem?_getD,List.getD_eq_getElem?_getD,List.getD_eq_getElem?_getD]
 cases u:l[t.i]? with
 |none=>simp
 |some X=>
  rw[Option.getD_some]
  cases v:X[t.k]? with
  |none=>simp
  |some Y=>
   rw[Option.getD_some]
   cases z:Y[t.r]? with
   |none=>simp
   |some n=>
    rw[Option.getD_some];have:=((y _ X u).2 Y (List.mem_of_getElem? v)).2 n (List.mem_of_getElem? z);omega
structure Q1 (m:Md) (p:Pln) (N:Nat) (l:List Ev):Prop where
 cl:ClosedP l
 qs:∀e∈l,e.past.length=N
 gb:l.length<=30
 pl:cy m p=true
 n5:1<=N/\N<=5
 fZ:∀x∈l,(gM m p ((j4 l x.past).foldl cS (iY m p N)) x).2=0
theorem Q1.at{m:Md}{p:Pln}{N:Nat}{l:List Ev}(h:Q1 m p N l){x:Ev}(hx:x∈l):gl m p N x=true/\cT m p N ((j4 l x.past).foldl cS (iY m p N))=true/\cT m p N (cS ((j4 l x.past).foldl cS (iY m p N)) x)=true:=by
 obtain⟨_,_,h1,h2,h3⟩:=Og (h.fZ x hx);rw[h.qs x hx]at h1 h2 h3;exact⟨h1,h2,h3⟩
def Q1.v0{m:Md}{p:Pln}{N:Nat}{l:List Ev}(h:Q1 m p N l):cT m p N (iY m p N)=true:=Ka h.pl (by have:=h.n5;omega)
def Q1.tr{m:Md}{p:Pln}{N:Nat}{l:List Ev}(h:Q1 m p N l){x:Ev}(hx:x∈l):iS (iY m p N) x:=(pk (h.at hx).1 h.v0).1
def td(m:Md)(p:Pln)(N:Nat)(l:List Ev)(C:Ev->Bool):aO:=(l.filter C).foldl cS (iY m p N)
def Q1.val{m:Md}{p:Pln}{N:Nat}{l:List Ev}(h:Q1 m p N l)(C:Ev->Bool):(∀t,pE (td m p N l C) t=pE (iY m p N) t+j0 ((l.filter C).map (QW t)))/\(∀i k,j0 (rowAt (td m p N l C) i k)=j0 (rowAt (iY m p N) i k))/\eG (iY m p N) (td m p N l C):=by
 have z:(l.filter C).length<=l.length:=List.length_filter_le _ _;have y:=h.gb;obtain⟨v,a2⟩:=S5 (l.filter C) (iY m p N) 5 (fun e u=>h.tr (List.mem_filter.1 u).1) (fun t=>by have:=RW h.v0 t;omega) (by omega);exact⟨v,a2,Ap (fun e u=>h.tr (List.mem_filter.1 u).1) (eG.refl _)⟩
def Down(l:List Ev)(C:Ev->Bool):Prop:=∀e∈l,C e=true->∀f∈l,hasS e.past f.r f.n=true->C f=true
def TA{e:Ev}(h:ew e=true):hasS e.past e.r e.n=false:=by
 have v:=Rf h;unfold hasS;rw[<- Bool.not_eq_true];intro u;simp only[Bool.and_eq_true,decide_eq_true_eq]at u;omega
def RS{x f:Ev}(h:ew x=true)(hr:f.r=x.r)(h1:1<=f.n)(h2:f.n <x.n):hasS x.past f.r f.n=true:=by
 have u:=Rf h;rw[hr];exact Rq (Jv h) u.1 u.2.1 h1 (by omega)
def RD{e:Ev}(h:ew e=true):1<=e.n/\0<=e.r:=by
 have h1:=Rf h;have h2:=Rg (Jv h) e.r.toNat;omega
def Q1.nn{m:Md}{p:Pln}{N:Nat}{l:List Ev}(h:Q1 m p N l){C:Ev->Bool}(hd:Down l C)(t:jX):0<=pE (td m p N l C) t:=by
 rw[(h.val C).1 t];have b0:=RW h.v0 t;by_cases U:(l.filter fun e=>C e&&decide (e.r.toNat=t.r))=[]
 ·have h0:j0 ((l.filter fun _=>false).map (QW t))<=j0 ((l.filter C).map (QW t)):=RV (fun x _ Z=>by cases Z) fun x Z hc _=>R4 (h.tr Z) fun hr=>by
   have:x∈l.filter fun e=>C e&&decide (e.r.toNat=t.r):=List.mem_filter.2 ⟨Z,by rw[hc,decide_eq_true hr];rfl⟩;rw[U]at this;cases this
  have h1:l.filter (fun _=>false)=[]:=by simp
  rw[h1]at h0;have h2:j0 (([]:List Ev).map (QW t))=0:=rfl;omega
 ·obtain⟨e,he,J⟩:=SO U;obtain⟨v,G⟩:=List.mem_filter.1 he;rw[Bool.and_eq_true,decide_eq_true_eq]at G;have y:=h.cl.form;have hs:=h.at v
  have hP:j0 ((l.filter fun f=>hasS e.past f.r f.n ||decide (nm f=nm e)).map (QW t))<=j0 ((l.filter C).map (QW t)):=RV (fun f D u=>by
    rw[Bool.or_eq_true,decide_eq_true_eq]at u;rcases u with u|u
    ·exact hd e v G.1 f D u
    ·rw[L8 h.cl.names D v u];exact G.1) fun f D ab u=>R4 (h.tr D) fun hr=>by
    rw[Bool.or_eq_false_iff]at u;have ao:=J f (List.mem_filter.2 ⟨D,by rw[ab,decide_eq_true hr];rfl⟩);have f1:=RD (y f D);have f2:=RD (y e v);have V:f.r=e.r:=by omega
    rcases Int.lt_or_le f.n e.n with ad|ap
    ·have:=RS (y e v) V f1.1 ad;rw[this]at u;exact absurd u.1 (by decide)
    ·have ag:f.n=e.n:=by omega
     have:nm f=nm e:=by unfold nm;rw[V,ag]
     rw[decide_eq_true this]at u;exact absurd u.2 (by decide)
  have al:=S4 (w:=QW t) (P:=fun f=>hasS e.past f.r f.n) (Q:=fun f=>decide (nm f=nm e)) (l:=l) fun f D u=>by
   refine decide_eq_false fun hh=>?_;rw[L8 h.cl.names D v hh,TA (y e v)]at u;cases u
  rw[SC h.cl.names v]at al;have an:j0 (([e]:List Ev).map (QW t))=QW t e:=by unfold j0;simp
  have hv:=(h.val fun f=>hasS e.past f.r f.n).1 t;have z:td m p N l (fun f=>hasS e.past f.r f.n)=(j4 l e.past).foldl cS (iY m p N):=rfl;rw[z]at hv;have b1:=RW hs.2.1 t;have b2:=RW hs.2.2 t;have I:=(h.val fun f=>hasS e.past f.r f.n).2.2;rw[z]at I;rw[S6 ((h.tr v).qs I) (by omega)]at b2;omega
theorem SZ:∀n:Nat,j0 (List.replicate n 1)=(n:Int)
 |0=>rfl
 |n+1=>by rw[List.replicate_succ,Q0,SZ n];omega
def T3{y:List Int}(h:∀n∈y,0<=n){a:Int}(ha:a∈y):a<=j0 y:=by
 induction y with
 |nil=>cases ha
 |cons x y z=>
  have D:0<=j0 y:=by
   clear z ha;have:∀n∈y,0<=n:=fun n u=>h n (by simp[u]);clear h
   induction y with
   |nil=>unfold j0;simp
   |cons b y v=>
    rw[Q0];have h1:=this b (by simp);have h2:=v fun n u=>this n (by simp[u]);omega
  rw[Q0];have G:=h x (by simp);rcases List.mem_cons.1 ha with rfl|ha
  ·omega
  ·have:=z (fun n u=>h n (by simp[u])) ha;omega
def Q1.part{m:Md}{p:Pln}{N:Nat}{l:List Ev}(h:Q1 m p N l){C:Ev->Bool}(hd:Down l C):cT m p N (td m p N l C)=true/\Ry N (td m p N l C):=by
 obtain⟨hv,hs,ha⟩:=h.val C;have h0:=lU.1 h.v0
 have J:(td m p N l C).length=(iY m p N).length:=by
  have:=congrArg List.length ha;simpa using this
 -- a row of it
 have v:∀(i:Nat) (x:List (List Int)),(td m p N l C)[i]?=some x->(x.length:Int)=eu m p i/\∀(k:Nat) (y:List Int),x[k]?=some y->(y.length:Int)=N/\j0 y=N/\∀n∈y,0<=n:=fun i x G=>by
  have I:=ha.get i;rw[G,Option.map_some]at I
  cases u:(iY m p N)[i]? with
  |none=>rw[u]at I;cases I
  |some X=>
   rw[u,Option.map_some]at I;have U:=Option.some.inj I;have ag:x.length=X.length:=by have:=congrArg List.length U;simpa using this
   obtain⟨q1,q2⟩:=h0.2.2.2 i X u;refine⟨by omega,fun k y D=>?_⟩;obtain⟨Y,V⟩:=am (xs:=X) (k:=k) (by have:=aC D;omega)
   have al:y.length=Y.length:=by
    have:=congrArg (fun l=>l[k]?) U;simp only[List.getElem?_map,D,V,Option.map_some]at this;exact Option.some.inj this
   have ad:=(q2 Y (List.mem_of_getElem? V)).1
   have ab:Y=List.replicate N 1:=by
    unfold iY at u;rw[List.getElem?_map]at u
    cases hr:(List.range p.aA.length)[i]? with
    |none=>rw[hr]at u;cases u
    |some j=>
     rw[hr]at u;cases u;have:=List.eq_of_mem_replicate (List.mem_of_getElem? V);rw[this];rfl
   have z:=hs i k;rw[Rv G D,Rv u V,ab,SZ]at z;refine⟨by omega,z,fun n Z=>?_⟩;obtain⟨r,hr⟩:=List.mem_iff_getElem?.1 Z;have:=h.nn hd ⟨i,k,r,0⟩
   have e1:pE (td m p N l C) ⟨i,k,r,0⟩=n:=by
    show(rowAt (td m p N l C) i k).getD r 0=n
    rw[Rv G D,List.getD_eq_getElem?_getD,hr];rfl
   omega
 refine⟨lU.2 ⟨h.pl,by have:=h.n5;omega,by rw[J];exact h0.2.2.1,fun i x G=>?_⟩,fun x G y D=>?_⟩
 ·obtain⟨r1,r2⟩:=v i x G;refine⟨r1,fun y D=>?_⟩;obtain⟨k,hk⟩:=List.mem_iff_getElem?.1 D;obtain⟨r3,r4,r5⟩:=r2 k y hk;exact⟨r3,fun n Z=>⟨r5 n Z,by have:=T3 r5 Z;omega⟩⟩
 ·obtain⟨i,hi⟩:=List.mem_iff_getElem?.1 G;obtain⟨k,hk⟩:=List.mem_iff_getElem?.1 D;exact((v i x hi).2 k y hk).2.1
def SS{l:List Ev}(h:ClosedP l){x e f:Ev}(hx:x∈l)(he:e∈l)(h1:hasS x.past e.r e.n=true)(h2:hasS e.past f.r f.n=true):hasS x.past f.r f.n=true:=by
 obtain⟨U,v,D,y,_⟩:=h.down x hx e.r e.n h1;obtain rfl:=L8 h.names v he (by rw[D];rfl);obtain⟨k,c,hr,I,z,ab⟩:=RR h2;have J:=h.alike U v x hx;have V:=aC I;obtain⟨G,u⟩:=am (xs:=x.past) (k:=k) (by omega)
 have Z:c<=G:=by
  unfold C3 at y
  have:=List.all_eq_true.1 y (c,G) (by
   refine List.mem_of_getElem? (i:=k) ?_;rw[List.getElem?_zip_eq_some];exact⟨I,u⟩)
  simpa[KR]using this
 rw[hr];exact Sb (Jv (h.form x hx)) u z (by omega)
def Q1.SB{m:Md}{p:Pln}{N:Nat}{l:List Ev}(h:Q1 m p N l){x y:Ev}(hx:x∈l)(hy:y∈l)(kx:x.k=0)(ky:y.k=0)(hc:Q2 x y=true){j:Nat}{L:Lck}(hL:p.aA[j]?=some L)(px:gL L x.a=true)(py:gL L y.a=true)(he:j9 m L x.a=j9 m L y.a)(hw:mN m L x.a=true\/mN m L y.a=true):False:=by
 unfold Q2 at hc;simp only[Bool.and_eq_true,Bool.not_eq_true',decide_eq_false_iff_not]at hc;obtain⟨U,V,be,Z,ab⟩:=hc
 have ao:hasS y.past x.r x.n=false:=by
  unfold qw at Z;rw[U,V]at Z;simpa using Z
 have ap:hasS x.past y.r y.n=false:=by
  unfold qw at ab;rw[U,V]at ab;simpa using ab
 have ox:=RD U;have oy:=RD V
 have b3:x.r≠y.r:=fun hr=>by
  rcases Int.lt_trichotomy x.n y.n with h1|h1|h1
  ·rw[RS V hr ox.1 h1]at ao;cases ao
  ·exact be (by unfold nm;rw[hr,h1])
  ·rw[RS U hr.symm oy.1 h1]at ap;cases ap
 -- what an action has
 have bj:∀u∈l,u.k=0->gL L u.a=true->(if mN m L u.a=true then(N:Int)else 1)<=pE ((j4 l u.past).foldl cS (iY m p N)) ⟨j,(j9 m L u.a).toNat,u.r.toNat,0⟩:=fun u hu ku pu=>by
  have G:=h.fZ u hu;obtain⟨_,_,bb,bf,_⟩:=Og G
  have bd:fq ((j4 l u.past).foldl cS (iY m p N)) u.r (dS m p u.a N)=[]:=by
   unfold gM at G;rw[if_pos ⟨h.pl,bb,bf⟩,h.qs u hu]at G;by_cases aG:fq ((j4 l u.past).foldl cS (iY m p N)) u.r (dS m p u.a N)=[]
   ·exact aG
   ·rw[if_pos ⟨ku,aG⟩]at G;cases G
  have a1:(⟨1,(j:Int),j9 m L u.a,if mN m L u.a=true then(N:Int)else 1⟩:cz)∈dS m p u.a N:=by
   unfold dS;refine List.mem_append.2 (.inr (yX.2 ⟨j,L,hL,pu,by simp⟩))
  rcases Int.lt_or_le (og ((j4 l u.past).foldl cS (iY m p N)) u.r ⟨1,(j:Int),j9 m L u.a,if mN m L u.a=true then(N:Int)else 1⟩) (if mN m L u.a=true then(N:Int)else 1)with ag|ad
  ·have:=Sf a1 rfl ag;rw[bd]at this;cases this
  ·exact ad
 have nx:=bj x hx kx px;have ny:=bj y hy ky py;rw[<- he]at ny
 -- both pasts together
 obtain⟨C,hC⟩:∃C:Ev->Bool,C=fun f=>hasS x.past f.r f.n ||hasS y.past f.r f.n:=⟨_,rfl⟩
 have aT:Down l C:=fun e aB v f I ax=>by
  rw[hC]at v⊢;rw[Bool.or_eq_true]at v⊢;rcases v with v|v
  ·exact .inl (SS h.cl hx aB v ax)
  ·exact .inr (SS h.cl hy aB v ax)
 obtain⟨bk,bi⟩:=h.part aT
 have J:∀(u w:Ev),u∈l->w∈l->(∀f,hasS u.past f.r f.n=true->C f=true)->(∀f,C f=true->hasS u.past f.r f.n=false->hasS w.past f.r f.n=true)->ew u=true->ew w=true->hasS w.past u.r u.n=false->∀κ:Nat,pE ((j4 l u.past).foldl cS (iY m p N)) ⟨j,κ,u.r.toNat,0⟩<=pE (td m p N l C) ⟨j,κ,u.r.toNat,0⟩:=fun u w hu b4 aN aR fu fw al κ=>by
  have h1:=(h.val fun f=>hasS u.past f.r f.n).1 ⟨j,κ,u.r.toNat,0⟩;have h2:=(h.val C).1 ⟨j,κ,u.r.toNat,0⟩;have av:td m p N l (fun f=>hasS u.past f.r f.n)=(j4 l u.past).foldl cS (iY m p N):=rfl;rw[av]at h1
  have h3:=RV (w:=QW ⟨j,κ,u.r.toNat,0⟩) (P:=fun f=>hasS u.past f.r f.n) (Q:=C) (l:=l) (fun f _ I=>aN f I) fun f I z D=>R4 (h.tr I) fun hr=>by
   dsimp only at hr;have bl:=aR f z D;have o1:=RD (h.cl.form f I);have o2:=RD fu;have aF:f.r=u.r:=by omega
   have bu:u.n<=f.n:=by
    rcases Int.lt_or_le f.n u.n with ag|ad
    ·rw[RS fu aF o1.1 ag]at D;cases D
    ·exact ad
   obtain⟨k,c,a6,hk,bZ,b1⟩:=RR bl;rw[<- aF,a6]at al;rw[Sb (Jv fw) hk (by omega) (by omega)]at al;cases al
  omega
 have gx:=J x y hx hy (fun f I=>by rw[hC];simp[I]) (fun f z D=>by rw[hC]at z;simpa[D]using z) U V ao (j9 m L x.a).toNat;have gy:=J y x hy hx (fun f I=>by rw[hC];simp[I]) (fun f z D=>by rw[hC]at z;simpa[D]using z) V U ap (j9 m L x.a).toNat
 -- the row
 have bH:=aC hL;obtain⟨an,b2,bS,aM⟩:=lU.1 bk;obtain⟨X,hX⟩:=am (xs:=td m p N l C) (k:=j) (by omega);obtain⟨bm,aX⟩:=aM j X hX
 have hE:eu m p (j:Int)=n9 m L:=by
  unfold eu RE Rl;rw[an,decide_eq_true (show(0:Int)<=(j:Int) by omega),decide_eq_true (show(j:Int)<p.aA.length by omega),Int.toNat_natCast,List.getD_eq_getElem?_getD,hL];rfl
 have bt:=Ca (k:=x.a) (kU.1 an).lH (lE.1 ((kU.1 an).lock L (List.mem_of_getElem? hL))) px;obtain⟨Y,hY⟩:=am (xs:=X) (k:=(j9 m L x.a).toNat) (by omega);have au:=List.mem_of_getElem? hY;obtain⟨bo,aY⟩:=aX Y au;have rx:=Rf U;have ry:=Rf V;have lx:=h.qs x hx;have ly:=h.qs y hy;obtain⟨a,ha⟩:=am (xs:=Y) (k:=x.r.toNat) (by omega);obtain⟨b,hb⟩:=am (xs:=Y) (k:=y.r.toNat) (by omega)
 have ea:pE (td m p N l C) ⟨j,(j9 m L x.a).toNat,x.r.toNat,0⟩=a:=by
  show(rowAt (td m p N l C) j (j9 m L x.a).toNat).getD x.r.toNat 0=a
  rw[Rv hX hY,List.getD_eq_getElem?_getD,ha];rfl
 have eb:pE (td m p N l C) ⟨j,(j9 m L x.a).toNat,y.r.toNat,0⟩=b:=by
  show(rowAt (td m p N l C) j (j9 m L x.a).toNat).getD y.r.toNat 0=b
  rw[Rv hX hY,List.getD_eq_getElem?_getD,hb];rfl
 have h2:=S3 (fun n hn=>(aY n hn).1) ha hb (by omega);have hs:=bi X (List.mem_of_getElem? hX) Y au;rcases hw with hw|hw
 ·rw[if_pos hw]at nx;split at ny <;>omega
 ·rw[if_pos hw]at ny;split at nx <;>omega
set_option maxHeartbeats 32000000
def RB{l:List Ev}{q:Nat}{e:Ev}(h:l[q]?=some e):(b8 l)[q]?=some (cx e):=by unfold b8;rw[List.getElem?_map,h];rfl
def TV{e:Ev}(h:ew e=true):1<=e.past.length/\e.past.length<=5:=by
 have:=Jv h;simp[je]at this;omega
def SI{m:Md}{p:Pln}{l:List Ev}(hW:PW m p)(hf:p.aM.length<=1000)(aT:l.length<=30)(h8:∀e∈l,e.past.length<=8):(∃u,l[0]?=some u/\Q1 m p u.past.length l/\Cl aj 26 [.t (bN m),.t (a_ p),.t (.arr (b8 l))] [] (.aN [.t (.arr (aU (iY m p (u.past.length:Int)))),.t (.bool true)]) [])\/Cl aj 26 [.t (bN m),.t (a_ p),.t (.arr (b8 l))] [] (.aN [.nil,.t (.bool false)]) []:=by
 have bu:=pn l;have kc:=Sx (l:=l) (by omega) (fun e I=>by have:=h8 e I;omega);by_cases h0:l.length=0
 ·
  right
  unfold a_;rw[aZ,bK];refine Cl.ap rfl Tryz.func26 rfl rfl rfl ?_
  repeat'(first
|(with_reducible apply ac.seq)
|((with_reducible apply ac.text);(try case hm=>exact rfl))
|(with_reducible first|apply ac.ret|apply bL)
|((with_reducible apply ac.aR);(case hc=>exact rfl))
|((with_reducible apply aa.aF);(case hp=>exact ak))
|(with_reducible apply aa.aB)
|((with_reducible apply aa.gf);(case hW=>exact rfl))
|((with_reducible apply aa.u0);(case hx=>exact ae))
|fail)
  exact⟨.inr rfl,rfl⟩
 ·
  have bt:¬(l.length:Int)=0:=by omega
  obtain⟨u,an⟩:=am (xs:=l) (k:=0) (by omega);have a1:=RB an;have bH:=aW u.past;have aG:=List.mem_of_getElem? an;by_cases U:ClosedP l
  ·
   rw[R0 U]at kc;obtain⟨N,hN⟩:∃N,u.past.length=N:=⟨_,rfl⟩;subst hN;have bf:=TV (U.form u aG);have aX:∀e∈l,e.past.length=u.past.length:=fun e I=>U.alike e I u aG;have J:=FQ (R:=(u.past.length:Int)) hW
   cases hv:cy m p with
   |false=>
    right
    have ao:mI m p (u.past.length:Int)=([],1):=by unfold mI;rw[if_neg (by rw[hv];simp)]
    rw[ao]at J;dsimp only at J;have e2:(.arr (aU []):AV)=.arr []:=rfl;rw[e2]at J;unfold a_ at J⊢;rw[aZ,bK]at J⊢;unfold cx at a1;refine Cl.ap rfl Tryz.func26 rfl rfl rfl ?_
    repeat'(first
|(with_reducible apply ac.seq)
|((with_reducible apply ac.text);(try case hm=>exact rfl))
|(with_reducible first|apply ac.skip|apply ac.ret|apply aH|apply bL)
|((with_reducible apply ac.aR);(case hc=>exact rfl))
|((with_reducible apply ac.aY);(case hc=>exact rfl))
|((with_reducible apply aa.bk);(case hp=>exact ak))
|((with_reducible apply aa.fS);(case hp=>exact ak))
|(with_reducible apply aa.aB)
|((with_reducible apply aa.av);(case hW=>exact rfl);(case hx=>first
|(exact ai kc)
|exact ae))
|((with_reducible apply aa.u0);(case hx=>first
|(exact di J)
|exact ae))
|fail)
    exact⟨.inr rfl,rfl⟩
   |true=>
    have ao:mI m p (u.past.length:Int)=(iY m p (u.past.length:Int),0):=by unfold mI;rw[if_pos ⟨hv,by omega,by omega⟩]
    have au:cT m p u.past.length (iY m p u.past.length)=true:=Ka hv (by omega);rw[ao]at J;dsimp only at J;have bd:=Gj au
    obtain⟨T,hT⟩:∃T:Bool,T=true↔Q1 m p u.past.length l:=by
     by_cases hh:Q1 m p u.past.length l
     ·exact⟨true,by simp[hh]⟩
     ·exact⟨false,by simp[hh]⟩
    have ad:Cl aj 26 [.t (bN m),.t (a_ p),.t (.arr (b8 l))] [] (bif T then .aN [.t (.arr (aU (iY m p (u.past.length:Int)))),.t (.bool true)]else .aN [.nil,.t (.bool false)]) []:=by
     have G:=fun(x:Ev) (hx:x∈l)=>R5 (l:=l) (c:=x.past) (by omega) (by have:=h8 x hx;omega);have v:=fun(E:List Ev) (hE:E.length<=30) (be:∀e∈E,e.past.length<=8)=>FJ (R:=(u.past.length:Int)) (l:=iY m p u.past.length) (E:=E) hW bd (by omega) (fun e I=>by have:=be e I;omega);have D:=fun(z:aO) (e:Ev) (hz:Rm z) (I:e∈l)=>Ae (l:=z) (e:=e) hW hf hz (by have:=h8 e I;omega);unfold a_ at J v D⊢;rw[bK]at J v D⊢;rw[aZ]at J v D⊢;unfold cx at a1;refine Cl.ap rfl Tryz.func26 rfl rfl rfl ?_
     repeat'(first
|(with_reducible first|apply ac.seq|apply ac.block)
|((with_reducible apply ac.text);(try case hm=>exact rfl))
|(with_reducible first|apply ac.skip|apply aH)
|((with_reducible apply ac.aY);(case hc=>exact rfl))
|((with_reducible apply aa.bk);(case hp=>exact ak))
|((with_reducible apply aa.dK);(case hp=>exact ak))
|(with_reducible apply aa.aB)
|((with_reducible apply aa.av);(case hW=>exact rfl);(case hx=>first
|(exact ai kc)
|exact ae))
|((with_reducible apply aa.u0);(case hx=>first
|(exact di J)
|exact ae))
|fail)
     apply ac.cR
     case ho=>exact rfl
     case hp=>exact rfl
     case hl=>exact rfl
     case hs=>exact slt
     refine az.ind (fun q:Nat=>[(41,.t (.int .i64 (q:Int)))]) (fun q=>q<=l.length/\∀i x,i <q->l[i]?=some x->(gM m p ((j4 l x.past).foldl cS (iY m p u.past.length)) x).2=0) (fun q=>l.length - q) 0 rfl ⟨Nat.zero_le _,fun i x h=>absurd h (Nat.not_lt_zero _)⟩ (fun q hq=>?_);obtain⟨bS,bb⟩:=hq;rcases Nat.lt_or_ge q l.length with h3|h3
     ·
      obtain⟨x,aA⟩:=am h3;have ax:=List.mem_of_getElem? aA;have hc:=RB aA;have G:=G x ax;have bl:(j4 l x.past).length<=30:=Nat.le_trans (List.length_filter_le _ _) aT;have v:=v (j4 l x.past) bl (fun e I=>h8 e (List.mem_filter.1 I).1);by_cases hs:(jd m p u.past.length (iY m p u.past.length) (j4 l x.past)).2=0
      ·
       obtain⟨hA,_,bm⟩:=Pp hs;have ag:jd m p u.past.length (iY m p u.past.length) (j4 l x.past)=((j4 l x.past).foldl cS (iY m p u.past.length),0):=by rw[<- hA,<- hs]
       rw[ag]at v;dsimp only at v;have bo:Rm ((j4 l x.past).foldl cS (iY m p u.past.length)):=He (Ap (fun e I=>(pk (bm e I) au).1) (eG.refl _)) bd;have D:=D _ x bo ax
       have ab:=fun h:(gM m p ((j4 l x.past).foldl cS (iY m p u.past.length)) x).2=0=>(fun i y (hi:i <q+1) (hy:l[i]?=some y)=>by
        rcases Nat.lt_or_ge i q with a6|a6
        ·exact bb i y a6 hy
        ·obtain rfl:i=q:=by omega
         rw[aA]at hy;cases hy;exact h:∀i y,i <q+1->l[i]?=some y->(gM m p ((j4 l y.past).foldl cS (iY m p u.past.length)) y).2=0)
       have V:(gM m p ((j4 l x.past).foldl cS (iY m p u.past.length)) x).2≠0->T=false:=fun h=>by
        rw[<- Bool.not_eq_true];exact fun ht=>h ((hT.1 ht).fZ x ax)
       generalize j4 l x.past=X at*
       generalize X.foldl cS (iY m p u.past.length)=Z at*
       generalize gM m p Z x=S at D ab V;obtain⟨B,g⟩:=S;dsimp only at D ab V;have bj:=pn X;unfold c6 at D;unfold cx at D hc;by_cases hg:g=0
       ·
        subst hg
        repeat'(first
|(with_reducible first|apply ac.seq|apply ac.block)
|((with_reducible apply ac.text);(try case hm=>exact rfl))
|((with_reducible apply ac.drawn);(case hm=>exact rfl))
|(with_reducible first|apply ac.skip|apply aH|apply fH)
|((with_reducible apply ac.aR);(case hc=>exact rfl))
|((with_reducible apply ac.aY);(case hc=>exact rfl))
|((with_reducible apply aa.aF);(case hp=>exact ak))
|((with_reducible apply aa.dK);(case hp=>exact ak))
|(with_reducible apply aa.aB)
|((with_reducible apply aa.u0);(case hx=>first
|(exact di G)
|(exact di D)
|(exact di v)
|exact ae))
|fail)
        exact⟨q+1,rfl,rfl,⟨by omega,ab rfl⟩,by omega⟩
       ·
        have al:=V hg;subst al
        repeat'(first
|(with_reducible first|apply ac.seq|apply ac.block)
|((with_reducible apply ac.text);(try case hm=>exact rfl))
|((with_reducible apply ac.drawn);(case hm=>exact rfl))
|(with_reducible first|apply ac.skip|apply ac.ret|apply aH|apply bL|apply eV)
|((with_reducible apply ac.aR);(case hc=>exact rfl))
|((with_reducible apply ac.aY);(case hc=>exact rfl))
|((with_reducible apply aa.aF);(case hp=>exact ak))
|((with_reducible apply aa.fS);(case hp=>exact ak))
|((with_reducible apply aa.dK);(case hp=>exact ak))
|(with_reducible apply aa.aB)
|((with_reducible apply aa.u0);(case hx=>first
|(exact di G)
|(exact di D)
|(exact di v)
|exact ae))
|fail)
        exact⟨.inr rfl,rfl⟩
      ·
       have ag:=Po hs;rw[ag]at v;dsimp only at v;have e2:(.arr (aU []):AV)=.arr []:=rfl;rw[e2]at v
       have al:T=false:=by
        rw[<- Bool.not_eq_true];intro ht;apply hs;unfold jd;rw[if_pos ⟨au,List.all_eq_true.2 fun e I=>((hT.1 ht).at (List.mem_filter.1 I).1).1⟩]
       subst al;generalize j4 l x.past=X at*
       have bj:=pn X;unfold cx at hc
       repeat'(first
|(with_reducible first|apply ac.seq|apply ac.block)
|((with_reducible apply ac.text);(try case hm=>exact rfl))
|((with_reducible apply ac.drawn);(case hm=>exact rfl))
|(with_reducible first|apply ac.skip|apply ac.ret|apply aH|apply bL|apply eV)
|((with_reducible apply ac.aR);(case hc=>exact rfl))
|((with_reducible apply aa.aF);(case hp=>exact ak))
|((with_reducible apply aa.fS);(case hp=>exact ak))
|(with_reducible apply aa.aB)
|((with_reducible apply aa.u0);(case hx=>first
|(exact di G)
|(exact di v)
|exact ae))
|fail)
       exact⟨.inr rfl,rfl⟩
     ·
      have bi:T=true:=hT.2 ⟨U,aX,aT,hv,bf,fun x hx=>by
       obtain⟨i,hi⟩:=List.mem_iff_getElem?.1 hx;exact bb i x (by have:=aC hi;omega) hi⟩
      subst bi
      repeat'(first
|(with_reducible apply ac.seq)
|((with_reducible apply ac.text);(try case hm=>exact rfl))
|(with_reducible first|apply ac.exit|apply ac.ret|apply aH|apply da|apply cY)
|((with_reducible apply ac.aY);(case hc=>exact rfl))
|((with_reducible apply aa.bk);(case hp=>exact ak))
|(with_reducible apply aa.aB)
|((with_reducible apply aa.u0);(case hx=>exact ae))
|fail)
      exact⟨.inr rfl,rfl⟩
    cases T with
    |true=>
     left
     exact⟨u,an,hT.1 rfl,ad⟩
    |false=>
     right
     exact ad
  ·
   right
   rw[RA U]at kc;unfold a_;rw[aZ,bK];refine Cl.ap rfl Tryz.func26 rfl rfl rfl ?_
   repeat'(first
|(with_reducible apply ac.seq)
|((with_reducible apply ac.text);(try case hm=>exact rfl))
|(with_reducible first|apply ac.ret|apply bL)
|((with_reducible apply ac.aR);(case hc=>exact rfl))
|((with_reducible apply aa.bk);(case hp=>exact ak))
|(with_reducible apply aa.aB)
|((with_reducible apply aa.av);(case hW=>exact rfl);(case hx=>first
|(exact ai kc)
|exact ae))
|((with_reducible apply aa.u0);(case hx=>exact ae))
|fail)
   exact⟨.inr rfl,rfl⟩
end Go.Proofs.YtcgdbhlnkificaaGreatDoor
