/- Law 40: plain law of SharesSuffice: what the others give. No condition. -/
import Derived.Test.YtcgdbhlnkificaaGreatDoorTUI
set_option linter.all false
namespace Go.Proofs.YtcgdbhlnkificaaGreatDoor
open Go.RowKit
set_option maxRecDepth 100000
def j0(y:List Int):Int:=y.foldl (fun s n=>s+n) 0
def T2(y:List Int):∀s:Int,y.foldl (fun s n=>s+n) s=s+j0 y:=by
 induction y with
 |nil=>intro s;unfold j0;simp
 |cons a y u=>
  intro s;unfold j0;rw[List.foldl_cons,List.foldl_cons,u,u (0+a)];omega
def Q0(a:Int)(y:List Int):j0 (a::y)=a+j0 y:=by
 unfold j0;rw[List.foldl_cons,T2];unfold j0;omega
def S0{y:List Int}{k:Nat}{n:Int}(h:y[k]?=some n):j0 (y.take (k+1))=j0 (y.take k)+n:=by
 unfold j0;rw[List.take_add_one,List.foldl_append,h];rfl
theorem Rx:∀{y:List Int} {k:Nat} {n v:Int},y[k]?=some n->j0 (y.set k v)=j0 y+v - n
 |[],k,n,v,h=>by cases h
 |a::y,0,n,v,h=>by
  cases h;rw[List.set_cons_zero,Q0,Q0];omega
 |a::y,k+1,n,v,h=>by
  rw[List.set_cons_succ,Q0,Q0,Rx (y:=y) (k:=k) (v:=v) h];omega
theorem Sm:∀{y:List Int} {b:Int},(∀n∈y,0<=n/\n<=b)->0<=j0 y/\j0 y<=b*y.length
 |[],b,_=>by unfold j0;simp
 |a::y,b,h=>by
  have z:=Sm (y:=y) (b:=b) (fun n u=>h n (by simp[u]));have v:=h a (by simp);rw[Q0,List.length_cons];have:b*((y.length+1:Nat):Int)=b*y.length+b:=by push_cast;rw[Int.mul_add,Int.mul_one]
  omega
def S3{y:List Int}{r t:Nat}{a b:Int}(h:∀n∈y,0<=n)(hr:y[r]?=some a)(ht:y[t]?=some b)(D:r≠t):a+b<=j0 y:=by
 have h1:=Rx (v:=0) hr;have h2:(y.set r 0)[t]?=some b:=by rw[List.getElem?_set_ne D];exact ht
 have h3:=Rx (v:=0) h2
 have h4:0<=j0 ((y.set r 0).set t 0):=by
  have:∀n∈(y.set r 0).set t 0,0<=n:=fun n u=>by
   rcases List.mem_or_eq_of_mem_set u with u|rfl
   ·rcases List.mem_or_eq_of_mem_set u with u|rfl
    ·exact h n u
    ·exact Int.le_refl _
   ·exact Int.le_refl _
  clear h1 h2 h3;generalize(y.set r 0).set t 0=z at this
  induction z with
  |nil=>unfold j0;simp
  |cons a z G=>
   rw[Q0];have h1:=this a (by simp);have h2:=G fun n u=>this n (by simp[u]);omega
 omega
def T4{y:List Int}{t:Nat}{b:Int}(ht:y[t]?=some b)(h:∀(j:Nat) (n:Int),j≠t->y[j]?=some n->n=0):j0 y=b:=by
 have h1:=Rx (v:=0) ht
 have h2:∀n∈y.set t 0,n=0:=fun n D=>by
  obtain⟨j,u⟩:=List.mem_iff_getElem?.1 D;rw[List.getElem?_set]at u;split at u
  ·split at u
   ·cases u;rfl
   ·cases u
  ·rename_i G;exact h j n (fun e=>G e.symm) u
 have h3:j0 (y.set t 0)=0:=by
  generalize y.set t 0=z at h2
  induction z with
  |nil=>rfl
  |cons a z I=>
   rw[Q0,I fun n D=>h2 n (by simp[D]),h2 a (by simp)];rfl
 omega
def rowAt(l:aO)(i k:Nat):List Int:=(l.getD i []).getD k []
def Ry(R:Int)(l:aO):Prop:=∀x∈l,∀y∈x,j0 y=R
def pN(N:Nat)(i r:Int)(x:cz)(n:Int):Ev:=⟨i,1,1,List.replicate N 0,1,0,x.k,x.i,x.el,n,r,0,0⟩
def QT(N:Nat)(r a:Int):Ev:=⟨r,1,1,List.replicate N 0,0,a,0,0,0,0,0,0,1⟩
def SH{N:Nat}(u:1<=N/\N<=5){e:Ev}(hp:e.past=List.replicate N 0)(hr:0<=e.r/\e.r <N)(hn:e.n=1)(ht:e.t=1):oh e=true:=by
 have h1:(List.replicate N (0:Int)).getD e.r.toNat 0=0:=by
  rw[List.getD_eq_getElem?_getD,List.getElem?_replicate];split <;>rfl
 have h2:je (List.replicate N (0:Int))=true:=by
  rcases(by omega:N=1\/N=2\/N=3\/N=4\/N=5)with rfl|rfl|rfl|rfl|rfl <;>rfl
 unfold oh dA;rw[hp,h1,h2,hn,ht,List.length_replicate];simp;omega
def TI{m:Md}{p:Pln}{N:Nat}{r a:Int}(u:1<=N/\N<=5)(hr:0<=r/\r <N)(ha:0<=a/\a <m.ax.length)(hl:m.ax.length<=30):gl m p N (QT N r a)=true:=by
 have v:oh (QT N r a)=true:=SH u rfl hr rfl rfl;unfold gl qj ew;rw[v];simp[QT,sd,qU,dA,gE];exact⟨⟨decide_eq_true (by omega),decide_eq_true (by omega)⟩,decide_eq_true (by omega)⟩
def TJ{m:Md}{p:Pln}{N:Nat}{i r n:Int}{x:cz}(u:1<=N/\N<=5)(hi:0<=i/\i <N)(hr:0<=r/\r <N)(z:i≠r)(hk:x.k=1)(hx:0<=x.i/\x.i <p.aA.length)(hl:p.aA.length<=64)(he:0<=x.el/\x.el <eu m p x.i)(hn:1<=n/\n<=5):gl m p N (pN N i r x n)=true:=by
 have y:oh (pN N i r x n)=true:=SH u rfl hi rfl rfl;have D:=qI m p x.i;unfold gl qj ew;rw[y]
 have v:qT (pN N i r x n)=true:=by
  unfold qT dA;simp[pN,hk];omega
 rw[v];simp[pN,gE,hk];omega
def Tz{m:Md}{p:Pln}{N:Nat}{z:aO}{x:cz}{j k i r:Nat}{X:List (List Int)}{Y:List Int}{a b n:Int}(hs:cT m p N z=true)(hq:Ry N z)(ag:x.k=1)(ad:x.i=(j:Int))(ao:x.el=(k:Int))(I:z[j]?=some X)(hY:X[k]?=some Y)(hi:Y[i]?=some a)(hr:Y[r]?=some b)(V:i≠r)(hn:1<=n/\n<=a):
  gM m p z (pN N i r x n)=(z.set j (X.set k ((Y.set i (a - n)).set r (b+n))),0)/\cT m p N (z.set j (X.set k ((Y.set i (a - n)).set r (b+n))))=true/\Ry N (z.set j (X.set k ((Y.set i (a - n)).set r (b+n)))):=by
 obtain⟨hv,hR,aF,Z⟩:=lU.1 hs;obtain⟨au,an⟩:=Z j X I;have J:=List.mem_of_getElem? hY;obtain⟨av,D⟩:=an Y J;have al:=(kU.1 hv).gb;have aA:=aC I;have aB:=aC hY;have ax:=aC hi;have aG:=aC hr;have ha:=D a (List.mem_of_getElem? hi);have hb:=D b (List.mem_of_getElem? hr);have ap:=hq X (List.mem_of_getElem? I) Y J;have h2:=S3 (fun n hn=>(D n hn).1) hi hr V;have u:gl m p N (pN N i r x n)=true:=TJ (by omega) (by omega) (by omega) (by omega) ag (by omega) al (by rw[ad];omega) (by omega);have ht:gE (pN N i r x n)=true:=by unfold gE pN;simp[ag]
 obtain⟨X',Y',n1,n2,e1,e2,e3,e4,_,_,e5,e6⟩:=P0 hs (pk u hs).1 ht (Dd u ht);have q1:(pN N i r x n).gi.toNat=j:=by unfold pN;rw[ad];rfl
 have q2:(pN N i r x n).ge.toNat=k:=by unfold pN;rw[ao];rfl
 have q3:(pN N i r x n).r.toNat=i:=rfl;have q4:(pN N i r x n).to.toNat=r:=rfl;have q5:(pN N i r x n).ga=n:=rfl;have q6:((pN N i r x n).past.length:Int)=(N:Int):=by unfold pN;simp
 have q7:(pN N i r x n).k=1:=rfl;rw[q1,I]at e1;cases e1;rw[q2,hY]at e2;cases e2;rw[q3,hi]at e3;cases e3;rw[q4,hr]at e4;cases e4;rw[q1,q2,q3,q4,q5]at e5;rw[q5,decide_eq_true (show 0<=a - n by omega),decide_eq_true (show a - n<=(N:Int) by omega),decide_eq_true (show 0<=b+n by omega),decide_eq_true (show b+n<=(N:Int) by omega)]at e6;have ab:cT m p N (cS z (pN N i r x n))=true:=by rw[<- MP hs u,e6];rfl
 have U:gM m p z (pN N i r x n)=(cS z (pN N i r x n),0):=by
  unfold gM;rw[q6,if_pos ⟨hv,u,hs⟩,if_neg (fun hh=>by rw[q7]at hh;exact absurd hh.1 (by decide)),if_pos (by rw[e6];rfl)];rfl
 rw[e5]at ab U;refine⟨U,ab,fun x' G y hy=>?_⟩;rcases List.mem_or_eq_of_mem_set G with G|rfl
 ·exact hq x' G y hy
 ·rcases List.mem_or_eq_of_mem_set hy with hy|rfl
  ·exact hq X (List.mem_of_getElem? I) y hy
  ·have s1:=Rx (v:=a - n) hi;have s2:(Y.set i (a - n))[r]?=some b:=by rw[List.getElem?_set_ne V];exact hr
   have s3:=Rx (v:=b+n) s2;omega
def Sk{z:aO}{j k:Nat}{X:List (List Int)}{Y:List Int}(J:z[j]?=some X)(V:X[k]?=some Y)(v:List Int)(u y:Nat):rowAt (z.set j (X.set k v)) u y=if u=j/\y=k then v else rowAt z u y:=by
 unfold rowAt;by_cases G:u=j
 ·subst G;have D:(z.set u (X.set k v)).getD u []=X.set k v:=by rw[List.getD_eq_getElem?_getD,List.getElem?_set_self (aC J)];rfl
  have U:z.getD u []=X:=by rw[List.getD_eq_getElem?_getD,J];rfl
  rw[D,U];by_cases I:y=k
  ·subst I;rw[if_pos ⟨rfl,rfl⟩,List.getD_eq_getElem?_getD,List.getElem?_set_self (aC V)];rfl
  ·rw[if_neg (fun h=>I h.2),List.getD_eq_getElem?_getD,List.getD_eq_getElem?_getD,List.getElem?_set_ne (Ne.symm I)]
 ·rw[if_neg (fun h=>G h.1)];have D:(z.set j (X.set k v)).getD u []=z.getD u []:=by rw[List.getD_eq_getElem?_getD,List.getD_eq_getElem?_getD,List.getElem?_set_ne (Ne.symm G)]
  rw[D]
def RN(l:aO)(r:Nat)(x:cz):og l (r:Int) x=(rowAt l x.i.toNat x.el.toNat).getD r 0:=rfl
structure Q9 (m:Md) (p:Pln) (N:Nat) (r j k:Nat) (w:Int) (z0 z:aO) (i:Nat) (amt:Int):Prop where
 val:cT m p N z=true
 Sn:Ry N z
 off:∀j' k',¬(j'=j/\k'=k)->rowAt z j' k'=rowAt z0 j' k'
 row:∃X Y b,z[j]?=some X/\X[k]?=some Y/\Y[r]?=some b/\b+amt=w/\0<=amt/\(amt=0\/∀(t:Nat) (n:Int),t <i->t≠r->Y[t]?=some n->n=0)
def Q9.skip{m:Md}{p:Pln}{N r j k:Nat}{w:Int}{V z:aO}{i:Nat}{u:Int}(h:Q9 m p N r j k w V z i u)(hs:i=r\/∀X Y n,z[j]?=some X->X[k]?=some Y->Y[i]?=some n->n=0\/u=0):Q9 m p N r j k w V z (i+1) u:=by
 obtain⟨h1,h2,h3,X,Y,b,I,J,hb,Z,e2,y⟩:=h;refine⟨h1,h2,h3,X,Y,b,I,J,hb,Z,e2,?_⟩;rcases y with y|y
 ·exact .inl y
 rcases hs with rfl|hs
 ·exact .inr fun t n ht v G=>y t n (by omega) v G
 ·by_cases U:u=0
  ·exact .inl U
  ·refine .inr fun t n ht v G=>?_;rcases Nat.lt_or_ge t i with D|D
   ·exact y t n D v G
   ·obtain rfl:t=i:=by omega
    rcases hs X Y n I J G with h|h
    ·exact h
    ·exact absurd h U
def Q9.SF{m:Md}{p:Pln}{N r j k:Nat}{w:Int}{z0 z:aO}{i:Nat}{u:Int}{x:cz}(h:Q9 m p N r j k w z0 z i u)(al:x.k=1)(ag:x.i=(j:Int))(ad:x.el=(k:Int))(hi:i <N)(ab:i≠r){X:List (List Int)}{Y:List Int}{a:Int}(V:z[j]?=some X)(Z:X[k]?=some Y)(ha:Y[i]?=some a)(hn:1<=min a u):
  ∃z',gM m p z (pN N i r x (min a u))=(z',0)/\Q9 m p N r j k w z0 z' (i+1) (u - min a u):=by
 obtain⟨h1,h2,h3,X',Y',b,D,G,hb,e1,e2,U⟩:=h;rw[V]at D;cases D;rw[Z]at G;cases G;obtain⟨g1,g2,g3⟩:=Tz (n:=min a u) h1 h2 al ag ad V Z ha hb ab ⟨hn,by omega⟩;refine⟨_,g1,g2,g3,fun j' k' I=>?_,X.set k ((Y.set i (a - min a u)).set r (b+min a u)),(Y.set i (a - min a u)).set r (b+min a u),b+min a u,List.getElem?_set_self (aC V),List.getElem?_set_self (aC Z),List.getElem?_set_self (by rw[List.length_set];exact aC hb),by omega,by omega,?_⟩
 ·rw[Sk V Z,if_neg I];exact h3 j' k' I
 ·by_cases hm:u<=a
  ·exact .inl (by omega)
  ·refine .inr fun t n ht y v=>?_;rw[List.getElem?_set_ne (Ne.symm y)]at v;by_cases J:t=i
   ·subst J;rw[List.getElem?_set_self (aC ha)]at v;cases v;omega
   ·rw[List.getElem?_set_ne (fun e=>J e.symm)]at v;rcases U with U|U
    ·omega
    ·exact U t n (by omega) y v
def Q9.done{m:Md}{p:Pln}{N r j k:Nat}{w:Int}{z0 z:aO}{i:Nat}{u:Int}(h:Q9 m p N r j k w z0 z i u)(hi:N<=i)(hw:w<=N):u=0/\(rowAt z j k).getD r 0=w:=by
 obtain⟨h1,h2,h3,X,Y,b,D,G,U,e1,e2,v⟩:=h
 have y:rowAt z j k=Y:=by
  unfold rowAt;rw[List.getD_eq_getElem?_getD,List.getD_eq_getElem?_getD,D,Option.getD_some,G];rfl
 have ab:(rowAt z j k).getD r 0=b:=by rw[y,List.getD_eq_getElem?_getD,U];rfl
 obtain⟨_,_,_,I⟩:=lU.1 h1;have Z:=((I j X D).2 Y (List.mem_of_getElem? G)).1
 have ha:u=0:=by
  rcases v with v|v
  ·exact v
  ·have hz:=T4 U fun t n J V=>v t n (by have:=aC V;omega) J V;have hs:=h2 X (List.mem_of_getElem? D) Y (List.mem_of_getElem? G);omega
 exact⟨ha,by omega⟩
theorem RF{l:aO}{r:Int}:∀{A:List cz} {y:cz},y∈fq l r A->∃x∈A,x.k=1/\og l r x <x.n/\y=⟨x.k,x.i,x.el,x.n - og l r x⟩
 |[],y,h=>by cases h
 |x::A,y,h=>by
  unfold fq at h;split at h
  ·rename_i v;rcases List.mem_cons.1 h with rfl|h
   ·exact⟨x,by simp,v.1,v.2,rfl⟩
   ·obtain⟨u,h1,h2⟩:=RF h;exact⟨u,by simp[h1],h2⟩
  ·obtain⟨u,h1,h2⟩:=RF h;exact⟨u,by simp[h1],h2⟩
theorem Sf{l:aO}{r:Int}:∀{A:List cz} {x:cz},x∈A->x.k=1->og l r x <x.n->(⟨x.k,x.i,x.el,x.n - og l r x⟩:cz)∈fq l r A
 |[],x,h,_,_=>by cases h
 |y::A,x,h,h1,h2=>by
  unfold fq;rcases List.mem_cons.1 h with rfl|h
  ·rw[if_pos ⟨h1,h2⟩];simp
  ·have u:=Sf h h1 h2;split
   ·simp[u]
   ·exact u
theorem Sg(l:aO)(r:Int):∀A:List cz,((fq l r A).map (·.i)).Sublist ((A.filter fun x=>decide (x.k=1)).map (·.i))
 |[]=>List.Sublist.slnil
 |x::A=>by
  have y:=Sg l r A;rw[DN];by_cases v:x.k=1
  ·have u:(x::A).filter (fun x=>decide (x.k=1))=x::A.filter fun x=>decide (x.k=1):=List.filter_cons_of_pos (by simpa using v);rw[u];split
   ·exact y.cons_cons _
   ·exact y.cons _
  ·have u:(x::A).filter (fun x=>decide (x.k=1))=A.filter fun x=>decide (x.k=1):=List.filter_cons_of_neg (by simpa using v);rw[u,if_neg (fun h=>v h.1)];exact y
theorem SW(m:Md)(k R:Int):∀(i:Nat) (l:List Lck),((pK m k R i l).map (·.i)).Pairwise (· < ·)/\∀x∈pK m k R i l,(i:Int)<=x.i
 |i,[]=>by unfold pK;exact⟨List.Pairwise.nil,fun x h=>by cases h⟩
 |i,L::l=>by
  obtain⟨z,v⟩:=SW m k R (i+1) l;unfold pK;split
  ·rw[List.map_cons,List.pairwise_cons];refine⟨⟨fun y D=>?_,z⟩,fun x u=>?_⟩
   ·obtain⟨x,u,rfl⟩:=List.mem_map.1 D;have:=v x u;show(i:Int)<x.i
    omega
   ·rcases List.mem_cons.1 u with rfl|u
    ·exact Int.le_refl _
    ·have:=v x u;omega
  ·exact⟨z,fun x u=>by have:=v x u;omega⟩
def TY{m:Md}{k R:Int}{i:Nat}{l:List Lck}:(pK m k R i l).filter (fun x=>decide (x.k=1))=pK m k R i l:=by
 rw[List.filter_eq_self];intro x u;obtain⟨_,_,_,_,rfl⟩:=yX.1 u;rfl
def Td{m:Md}{k sg:Int}{i:Nat}{l:List bM}:(cZ m k sg i l).filter (fun x=>decide (x.k=1))=[]:=by
 rw[List.filter_eq_nil_iff];intro x u;obtain⟨_,_,_,_,rfl⟩:=yW.1 u;show¬decide ((0:Int)=1)=true
 decide
def Sh(m:Md)(p:Pln)(a R:Int):(((dS m p a R).filter fun x=>decide (x.k=1)).map (·.i)).Pairwise (· < ·):=by
 unfold dS;rw[List.filter_append,Td,List.nil_append,TY];exact(SW m a R 0 p.aA).1
def SQ{α:Type}{Q:α->α->Prop}{l:List α}(h:l.Pairwise Q){s t:Nat}{x y:α}(hs:l[s]?=some x)(ht:l[t]?=some y)(hst:s <t):Q x y:=by
 have h1:=aC hs;have h2:=aC ht;have:=List.pairwise_iff_getElem.1 h s t h1 h2 hst;rw[List.getElem?_eq_getElem h1]at hs;rw[List.getElem?_eq_getElem h2]at ht;cases hs;cases ht;exact this
def Si{l:List cz}(h:(l.map (·.i)).Pairwise (· < ·)){s t:Nat}{x y:cz}(hs:l[s]?=some x)(ht:l[t]?=some y)(he:x.i=y.i):s=t:=by
 have u:(l.map (·.i))[s]?=some x.i:=by rw[List.getElem?_map,hs];rfl
 have v:(l.map (·.i))[t]?=some y.i:=by rw[List.getElem?_map,ht];rfl
 rcases Nat.lt_trichotomy s t with h1|h1|h1
 ·have:=SQ h u v h1;omega
 ·exact h1
 ·have:=SQ h v u h1;omega
structure Q4 (m:Md) (p:Pln) (N r:Nat) (M:List cz) (l z:aO) (q:Nat):Prop where
 val:cT m p N z=true
 Sn:Ry N z
 off:∀j k:Nat,(∀y∈M.take q,¬y.i=(j:Int))->rowAt z j k=rowAt l j k
 on:∀y∈M.take q,og z (r:Int) y=og l (r:Int) y+y.n
def Q4.start{m:Md}{p:Pln}{N r:Nat}{M:List cz}{l:aO}(hs:cT m p N l=true)(hq:Ry N l):Q4 m p N r M l l 0:=⟨hs,hq,fun _ _ _=>rfl,fun y u=>by cases u⟩
def Sd(l:aO)(r:Int){x y:cz}(h1:x.i=y.i)(h2:x.el=y.el):og l r x=og l r y:=by unfold og;rw[h1,h2]
def Q4.begin{m:Md}{p:Pln}{N r q:Nat}{a:Int}{l z:aO}{x:cz}(h:Q4 m p N r (fq l r (dS m p a N)) l z q)(hs:cT m p N l=true)(hx:(fq l r (dS m p a N))[q]?=some x)(hr:r <N):
  ∃(j k:Nat) (w:Int),x.k=1/\x.i=(j:Int)/\x.el=(k:Int)/\w<=N/\(1<=x.n/\x.n<=N)/\w=og l (r:Int) x+x.n/\Q9 m p N r j k w z z 0 x.n:=by
 obtain⟨x',ab,v,an,u⟩:=RF (List.mem_of_getElem? hx);obtain⟨j,k,X,Y,n,e1,e2,hX,hY,hn,e3,e4,e5⟩:=JS hs ab v (r:=r) (by omega);obtain⟨D,G,X2,Y2,n2,f1,f2,J,U,V,f3,f4,f5⟩:=JS h.val ab v (r:=r) (by omega);have ej:D=j:=by omega
 have ek:G=k:=by omega
 subst ej ek
 have Z:rowAt z D G=rowAt l D G:=h.off D G fun y hy al=>by
  obtain⟨t,I⟩:=List.mem_iff_getElem?.1 hy;rw[List.getElem?_take]at I;split at I
  ·rename_i ap;have ag:=List.Pairwise.sublist (Sg l (r:Int) (dS m p a N)) (Sh m p a N);have:=Si ag I hx (by rw[al,u];exact e1.symm);omega
  ·cases I
 have ao:n2=n:=by
  have g1:(rowAt z D G).getD r 0=n2:=by
   unfold rowAt;rw[List.getD_eq_getElem?_getD,List.getD_eq_getElem?_getD,List.getD_eq_getElem?_getD,J,Option.getD_some,U,Option.getD_some,V];rfl
  have g2:(rowAt l D G).getD r 0=n:=by
   unfold rowAt;rw[List.getD_eq_getElem?_getD,List.getD_eq_getElem?_getD,List.getD_eq_getElem?_getD,hX,Option.getD_some,hY,Option.getD_some,hn];rfl
  rw[<- g1,<- g2,Z]
 have hh:og l (r:Int) x=n:=by rw[<- e3];exact Sd l r (by rw[u]) (by rw[u])
 have au:x.n=x'.n - n:=by rw[u,<- e3]
 have ad:x.k=1:=by rw[u];exact v
 refine⟨D,G,x'.n,ad,by rw[u];exact e1,by rw[u];exact e2,by omega,by omega,by omega,h.val,h.Sn,fun _ _ _=>rfl,X2,Y2,n2,J,U,V,by omega,by omega,.inr fun t n I=>absurd I (Nat.not_lt_zero _)⟩
def Q4.next{m:Md}{p:Pln}{N r q j k i:Nat}{a w J:Int}{l z z':aO}{x:cz}(h:Q4 m p N r (fq l r (dS m p a N)) l z q)(hx:(fq l r (dS m p a N))[q]?=some x)(I:x.i=(j:Int))(ad:x.el=(k:Int))(hw:w<=N)(ab:w=og l (r:Int) x+x.n)(hg:Q9 m p N r j k w z z' i J)(hi:N<=i):Q4 m p N r (fq l r (dS m p a N)) l z' (q+1):=by
 obtain⟨_,hd⟩:=hg.done hi hw;have G:(fq l (r:Int) (dS m p a N)).take (q+1)=(fq l (r:Int) (dS m p a N)).take q++[x]:=by rw[List.take_add_one,hx];rfl
 have Z:=List.Pairwise.sublist (Sg l (r:Int) (dS m p a N)) (Sh m p a N);refine⟨hg.val,hg.Sn,fun j' k' U=>?_,fun y v=>?_⟩
 ·rw[G]at U;rw[hg.off j' k' (fun hh=>U x (by simp) (by rw[I,hh.1]))];exact h.off j' k' fun y v=>U y (by simp[v])
 ·rw[G]at v;rcases List.mem_append.1 v with v|v
  ·obtain⟨t,D⟩:=List.mem_iff_getElem?.1 v;rw[List.getElem?_take]at D;split at D
   ·rename_i an
    have V:¬(y.i.toNat=j/\y.el.toNat=k):=fun hh=>by
     obtain⟨y',u,al,_,ag⟩:=RF (List.mem_of_getElem? D)
     have ao:0<=y.i:=by
      rw[ag];show 0<=y'.i
      unfold dS at u;rcases List.mem_append.1 u with u|u
      ·obtain⟨_,_,_,_,rfl⟩:=yW.1 u;exact absurd al (show¬(0:Int)=1 by decide)
      ·obtain⟨_,_,_,_,rfl⟩:=yX.1 u;exact Int.natCast_nonneg _
     have:=Si Z D hx (by omega);omega
    rw[<- h.on y v,RN,RN,hg.off _ _ V]
   ·cases D
  ·obtain rfl:y=x:=by simpa using v
   rw[RN,I,ad,Int.toNat_natCast,Int.toNat_natCast,hd,ab]
def Q4.done{m:Md}{p:Pln}{N r q:Nat}{a:Int}{l z:aO}(h:Q4 m p N r (fq l r (dS m p a N)) l z q)(hs:cT m p N l=true)(hr:r <N)(hq:(fq l (r:Int) (dS m p a N)).length<=q):fq z (r:Int) (dS m p a N)=[]:=by
 have U:(fq l (r:Int) (dS m p a N)).take q=fq l (r:Int) (dS m p a N):=List.take_of_length_le hq;rw[List.eq_nil_iff_forall_not_mem];intro y hy;obtain⟨x,hx,hk,D,_⟩:=RF hy;by_cases hl:og l (r:Int) x <x.n
 ·have hm:=Sf hx hk hl;have:=h.on _ (by rw[U];exact hm);dsimp only at this;have Z:og z (r:Int) ⟨x.k,x.i,x.el,x.n - og l (r:Int) x⟩=og z (r:Int) x:=Sd z r rfl rfl;have e2:og l (r:Int) ⟨x.k,x.i,x.el,x.n - og l (r:Int) x⟩=og l (r:Int) x:=Sd l r rfl rfl;omega
 ·obtain⟨j,k,X,Y,n,Z,e2,hX,hY,hn,e3,e4,e5⟩:=JS hs hx hk (r:=r) (by omega)
  have I:=h.off j k fun y' V ao=>by
   rw[U]at V;obtain⟨x',an,ad,G,ab⟩:=RF V;have hf:∀u:cz,u∈dS m p a N->u.k=1->u∈(dS m p a N).filter fun x=>decide (x.k=1):=fun u hu al=>List.mem_filter.2 ⟨hu,by simpa using al⟩;obtain⟨s,J⟩:=List.mem_iff_getElem?.1 (hf x hx hk);obtain⟨t,v⟩:=List.mem_iff_getElem?.1 (hf x' an ad);have ag:=Si (Sh m p a N) J v (by rw[Z,<- ao,ab]);subst ag;rw[J]at v;cases v;exact hl G
  rw[RN,Z,e2,Int.toNat_natCast,Int.toNat_natCast,I]at D;rw[RN,Z,e2,Int.toNat_natCast,Int.toNat_natCast]at hl;exact hl D
def S9{m:Md}{p:Pln}{N:Nat}{r a:Int}{z:aO}(hs:cT m p N z=true)(hk:gl m p N (QT N r a)=true):(gM m p z (QT N r a)).2=if fq z r (dS m p a N)=[]then 0 else 9:=by
 have J:((QT N r a).past.length:Int)=(N:Int):=by unfold QT;simp
 have I:gE (QT N r a)=false:=rfl;unfold gM;rw[J,if_pos ⟨(lU.1 hs).1,hk,hs⟩,Ga I];have v:(QT N r a).r=r:=rfl;have y:(QT N r a).a=a:=rfl;have D:(QT N r a).k=0:=rfl;rw[v,y];by_cases u:fq z r (dS m p a N)=[]
 ·rw[if_neg (fun G=>G.2 u),if_pos u];rfl
 ·rw[if_pos ⟨D,u⟩,if_neg u]
end Go.Proofs.YtcgdbhlnkificaaGreatDoor
