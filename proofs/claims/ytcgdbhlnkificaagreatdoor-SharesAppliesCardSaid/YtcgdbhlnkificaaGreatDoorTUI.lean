/- Law 40: shares. No condition. -/
import Derived.Test.YtcgdbhlnkificaaGreatDoorTUD
set_option linter.all false
namespace Go.Proofs.YtcgdbhlnkificaaGreatDoor
open Go.RowKit
set_option maxRecDepth 100000
set_option maxHeartbeats 32000000
def Ha{e:Ev}{l z:aO}(h:iS l e)(ha:eG l z):eG l (cS z e):=by
 unfold cS ij;split
 ·rename_i v;have h1:=(h.qs ha).ol v (0 - e.ga);have u:=ha.trans (Q0 h1.1);exact u.trans (Q0 ((h.qs u).ol v e.ga).2)
 ·exact ha
theorem Ap{l:aO}:∀{E:List Ev} {z:aO},(∀e∈E,iS l e)->eG l z->eG l (E.foldl cS z)
 |[],_,_,u=>u
 |e::E,z,h,u=>Ap (E:=E) (fun x v=>h x (by simp[v])) (Ha (h e (by simp)) u)
def FJ{m:Md}{p:Pln}{R:Int}{l:aO}{E:List Ev}(h:PW m p)(hl:Rm l)(hE:E.length<=1000000)(he:∀e∈E,e.past.length<=1000000):Cl aj 21 [.t (bN m),.t (a_ p),.t (.int .i64 R),.t (.arr (aU l)),.t (.arr (b8 E))] [] (.t (.aN [.arr (aU (jd m p R l E).1),.int .i64 (jd m p R l E).2])) []:=by
 have y:=tU (R:=R) h hl;have kc:=FD hl;have au:=pn E;unfold jd;have v:=fun(e:Ev) (U:e∈E)=>FX (p:=p) h R e (by have:=he e U;omega);have D:=fun(z:aO) (e:Ev) (ho:iS z e)=>Ol ho
 cases V:cT m p R l with
 |false=>
  rw[V]at y;rw[if_neg (by simp)];unfold a_ at y⊢;rw[aZ,bK]at y⊢;refine Cl.gr rfl Tryz.func21 rfl rfl rfl ?_;exact ah
 |true=>
  rw[V]at y;obtain⟨T,Z⟩:∃T,(E.all fun e=>gl m p R e)=T:=⟨_,rfl⟩;rw[Z];unfold a_ at y v⊢;rw[bK]at y v⊢;rw[aZ]at y v⊢;refine Cl.gr rfl Tryz.func21 rfl rfl rfl ?_;refine aq ?_;refine az.c8 (fun x:Nat×aO=>[(25,.t (.int .i64 (x.1:Int)))]) (fun x=>[.box false 30 (([aD m.ao,.arr (bC m.tables),.arr (cq m.bH),.arr (fk m.cons),.arr (fv m.ops),.arr (eg m.ax),.arr (c7 m.aG)]:List AV).map .t),.box false 35 (([.arr (gJ p.aM),.arr (fM p.aA),.arr (cM p.places),aD p.bj]:List AV).map .t),.own false (.arr (aU x.2)),.box false 36 [.lo 2 []]]) (fun x=>x.1<=E.length/\x.2=(E.take x.1).foldl cS l/\((E.take x.1).all fun e=>gl m p R e)=true) (fun x=>E.length - x.1) (0,l) rfl rfl ⟨by dsimp only;omega,rfl,rfl⟩ (fun x hq=>?_);obtain⟨q,z⟩:=x;dsimp only at hq⊢;obtain⟨h1,h2,h3⟩:=hq;rcases Nat.lt_or_ge q E.length with h4|h4
  ·
   obtain⟨e,u⟩:=am h4;have U:=List.mem_of_getElem? u;have hc:(b8 E)[q]?=some (cx e):=by unfold b8;rw[List.getElem?_map,u];rfl
   have av:=aW e.past;have v:=v e U;obtain⟨b,J⟩:∃b,gl m p R e=b:=⟨_,rfl⟩;rw[J]at v
   have G:((E.take (q+1)).all fun e=>gl m p R e)=b:=by
    rw[mU u h3];exact J
   cases b with
   |false=>
    have ab:T=false:=by
     rw[<- Z];exact jm U J
    subst ab;rw[if_neg (by simp)];unfold c6 cx at v;unfold cx at hc;exact ah
   |true=>
    have an:∀e∈E.take q,iS l e:=fun e' ag=>(pk (List.all_eq_true.1 h3 e' ag) V).1;have ap:eG l z:=by rw[h2];exact Ap an (eG.refl l)
    have D:=D z e ((pk J V).1.qs ap);have al:cS z e=(E.take (q+1)).foldl cS l:=by rw[List.take_add_one,List.foldl_append,<- h2,u];rfl
    rw[al]at D;obtain⟨z',I⟩:∃z',(E.take (q+1)).foldl cS l=z':=⟨_,rfl⟩;rw[I]at D;unfold c6 cx at v D;unfold cx at hc
    repeat'(first
|((with_reducible apply aa.aF);(case hp=>exact ak))
|(refine aw ?_)
|((with_reducible apply aa.u0);(case hx=>first
|(exact ai v)
|(exact lN [3,2] D)
|exact ae))
|fail)
    exact⟨(q+1,z'),rfl,rfl,⟨by dsimp only;omega,I.symm,G⟩,by dsimp only;omega⟩
  ·
   rw[List.take_of_length_le h4]at h2 h3;have ad:T=true:=by rw[<- Z,h3]
   subst ad;rw[if_pos ⟨rfl,rfl⟩,<- h2];exact ah
def PC{m:Md}{p:Pln}{R:Int}{l:aO}{i k:Nat}{X:List (List Int)}{Y u:List Int}(h:cT m p R l=true)(D:l[i]?=some X)(Z:X[k]?=some Y)(hl:u.length=Y.length):cT m p R (l.set i (X.set k u))=true↔∀n∈u,0<=n/\n<=R:=by
 obtain⟨hv,hR,J,hi⟩:=lU.1 h;obtain⟨G,v⟩:=hi i X D;have ab:=(v Y (List.mem_of_getElem? Z)).1;rw[lU];constructor
 ·rintro⟨_,_,_,h4⟩ n U;have h5:=h4 i (X.set k u) (List.getElem?_set_self (aC D));exact(h5.2 u (List.mem_of_getElem? (List.getElem?_set_self (aC Z)))).2 n U
 ·intro U;refine⟨hv,hR,by rw[List.length_set];exact J,fun j x z=>?_⟩;rw[List.getElem?_set]at z;split at z
  ·rename_i I;subst I;rw[if_pos (aC D)]at z;cases z;refine⟨by rw[List.length_set];exact G,fun y V=>?_⟩;rcases List.mem_or_eq_of_mem_set V with V|rfl
   ·exact v y V
   ·exact⟨by omega,U⟩
  ·exact hi j x z
def P0{m:Md}{p:Pln}{N:Int}{l:aO}{e:Ev}(hs:cT m p N l=true)(h:iS l e)(ht:gE e=true)(ax:e.to≠e.r):∃X Y n v,l[e.gi.toNat]?=some X/\X[e.ge.toNat]?=some Y/\Y[e.r.toNat]?=some n/\Y[e.to.toNat]?=some v/\(0<=n/\n<=N)/\(0<=v/\v<=N)/\cS l e=l.set e.gi.toNat (X.set e.ge.toNat ((Y.set e.r.toNat (n - e.ga)).set e.to.toNat (v+e.ga)))/\((ij e).foldl (ig N) (l,true)).2=((decide (0<=n - e.ga)&&decide (n - e.ga<=N))&&(decide (0<=v+e.ga)&&decide (v+e.ga<=N))):=by
 obtain⟨⟨h1,h2,h3,h4⟩,⟨ap,au⟩,_⟩:=h ht;obtain⟨i1,i2⟩:=h.ol ht (0 - e.ga);obtain⟨X,Y,n,hX,hY,hn,an,u⟩:=qZ i1;obtain⟨_,hR,av,hi⟩:=lU.1 hs;have hb:∀n∈Y,0<=n/\n<=N:=((hi _ X hX).2 Y (List.mem_of_getElem? hY)).2;obtain⟨X',Y',v,G,U,D⟩:=i2;dsimp only at hX hY hn G U D u an;rw[hX]at G;cases G;rw[hY]at U;cases U;have al:=hb n (List.mem_of_getElem? hn);have ad:=hb v (List.mem_of_getElem? D);have ao:e.r.toNat≠e.to.toNat:=by omega
 have w1:IntKind.i64.wrap (n+(0 - e.ga))=n - e.ga:=by rw[IntWalk.i64_in _ (by omega)];omega
 rw[w1]at u;have J:=aC hX;have Z:=aC hY;have j2:mO (cE l ⟨e.gi.toNat,e.ge.toNat,e.r.toNat,0 - e.ga⟩) ⟨e.gi.toNat,e.ge.toNat,e.to.toNat,e.ga⟩:=((h.qs (Q0 i1)).ol ht e.ga).2;obtain⟨X2,Y2,n2,I,V,ab,ag,y⟩:=qZ j2;dsimp only at I V ab y ag;rw[u,List.getElem?_set_self J]at I;cases I;rw[List.getElem?_set_self Z]at V;cases V;rw[List.getElem?_set_ne ao,D]at ab;cases ab;have w2:IntKind.i64.wrap (v+e.ga)=v+e.ga:=IntWalk.i64_in _ (by omega)
 have z:cE (cE l ⟨e.gi.toNat,e.ge.toNat,e.r.toNat,0 - e.ga⟩) ⟨e.gi.toNat,e.ge.toNat,e.to.toNat,e.ga⟩=l.set e.gi.toNat (X.set e.ge.toNat ((Y.set e.r.toNat (n - e.ga)).set e.to.toNat (v+e.ga))):=by
  refine y.trans ?_;rw[w2,u,List.set_set,List.set_set]
 have hS:ij e=[⟨e.gi.toNat,e.ge.toNat,e.r.toNat,0 - e.ga⟩,⟨e.gi.toNat,e.ge.toNat,e.to.toNat,e.ga⟩]:=by unfold ij;rw[if_pos ht]
 have g1:ky (cE l ⟨e.gi.toNat,e.ge.toNat,e.r.toNat,0 - e.ga⟩) ⟨e.gi.toNat,e.ge.toNat,e.r.toNat,0 - e.ga⟩=n - e.ga:=by
  rw[u];unfold ky;dsimp only;rw[List.getD_eq_getElem?_getD,List.getD_eq_getElem?_getD,List.getD_eq_getElem?_getD,List.getElem?_set_self J,Option.getD_some,List.getElem?_set_self Z,Option.getD_some,List.getElem?_set_self (aC hn)];rfl
 have g2:ky (cE (cE l ⟨e.gi.toNat,e.ge.toNat,e.r.toNat,0 - e.ga⟩) ⟨e.gi.toNat,e.ge.toNat,e.to.toNat,e.ga⟩) ⟨e.gi.toNat,e.ge.toNat,e.to.toNat,e.ga⟩=v+e.ga:=by
  rw[z];unfold ky;dsimp only;rw[List.getD_eq_getElem?_getD,List.getD_eq_getElem?_getD,List.getD_eq_getElem?_getD,List.getElem?_set_self J,Option.getD_some,List.getElem?_set_self Z,Option.getD_some,List.getElem?_set_self (by rw[List.length_set];exact aC D)];rfl
 refine⟨X,Y,n,v,hX,hY,hn,D,al,ad,?_,?_⟩
 ·unfold cS;rw[hS];exact z
 ·rw[hS];show(ig N (ig N (l,true) _) _).2=_
  unfold ig;dsimp only;rw[g1,g2,Bool.true_and]
def Ga{e:Ev}(h:gE e=false):ij e=[]:=by unfold ij;rw[h];rfl
def F7{l:aO}{e:Ev}(h:gE e=false):cS l e=l:=by unfold cS;rw[Ga h];rfl
def Dd{m:Md}{p:Pln}{n:Int}{e:Ev}(hk:gl m p n e=true)(ht:gE e=true):e.to≠e.r:=by
 unfold gl qj at hk;simp only[Bool.and_eq_true,Bool.or_eq_true,Bool.not_eq_true',decide_eq_true_eq,decide_eq_false_iff_not]at hk;obtain⟨⟨v,_⟩,_⟩:=hk;unfold ew at v;rw[Bool.and_eq_true]at v
 have y:e.k=1/\e.gk=1:=by
  unfold gE at ht;simpa using ht
 have u:=v.2;rw[if_neg (by omega),if_pos y.1]at u;simp only[Bool.and_eq_true,qT,dA,decide_eq_true_eq]at u;exact u.1.2
def MP{m:Md}{p:Pln}{N:Int}{l:aO}{e:Ev}(hs:cT m p N l=true)(hk:gl m p N e=true):((ij e).foldl (ig N) (l,true)).2=cT m p N (cS l e):=by
 cases u:gE e with
 |false=>
  rw[F7 u,hs,Ga u];rfl
 |true=>
  obtain⟨X,Y,n,D,U,V,hn,I,hb,ab,e1,e2⟩:=P0 hs (pk hk hs).1 u (Dd hk u);rw[e1,e2];have hl:((Y.set e.r.toNat (n - e.ga)).set e.to.toNat (D+e.ga)).length=Y.length:=by rw[List.length_set,List.length_set]
  have y:=PC hs U V hl;obtain⟨_,hR,ad,hi⟩:=lU.1 hs;have G:=((hi _ X U).2 Y (List.mem_of_getElem? V)).2;obtain⟨⟨q1,q2,q3,q4⟩,_,_⟩:=(pk hk hs).1 u;have ag:=Dd hk u;rw[Bool.eq_iff_iff,y];simp only[Bool.and_eq_true,decide_eq_true_eq];constructor
  ·rintro⟨⟨Z,a2⟩,a3,a4⟩ v z;rcases List.mem_or_eq_of_mem_set z with z|rfl
   ·rcases List.mem_or_eq_of_mem_set z with z|rfl
    ·exact G v z
    ·exact⟨Z,a2⟩
   ·exact⟨a3,a4⟩
  ·intro J
   have m1:((Y.set e.r.toNat (n - e.ga)).set e.to.toNat (D+e.ga))[e.r.toNat]?=some (n - e.ga):=by
    rw[List.getElem?_set_ne (by omega),List.getElem?_set_self (aC hn)]
   have m2:((Y.set e.r.toNat (n - e.ga)).set e.to.toNat (D+e.ga))[e.to.toNat]?=some (D+e.ga):=by
    rw[List.getElem?_set_self (by rw[List.length_set];exact aC I)]
   exact⟨J _ (List.mem_of_getElem? m1),J _ (List.mem_of_getElem? m2)⟩
def Og{m:Md}{p:Pln}{l:aO}{e:Ev}(h:(gM m p l e).2=0):(gM m p l e).1=cS l e/\cy m p=true/\gl m p e.past.length e=true/\cT m p e.past.length l=true/\cT m p e.past.length (cS l e)=true:=by
 unfold gM at h⊢;split
 ·rename_i u;rw[if_pos u]at h;obtain⟨h1,h2,h3⟩:=u;split
  ·rename_i v;rw[if_pos v]at h;cases h
  ·rename_i v;rw[if_neg v]at h;split
   ·rename_i y;exact⟨rfl,h1,h2,h3,by rw[<- MP h3 h2];exact y⟩
   ·rename_i y;rw[if_neg y]at h;cases h
 ·rename_i u;rw[if_neg u]at h;cases h
def Oe{m:Md}{p:Pln}{l:aO}{e:Ev}(h:(gM m p l e).2≠0):(gM m p l e).1=[]:=by
 unfold gM at h⊢;split
 ·rename_i v;rw[if_pos v]at h;split
  ·rfl
  ·rename_i u;rw[if_neg u]at h;split
   ·rename_i y;rw[if_pos y]at h;exact absurd rfl h
   ·rfl
 ·rfl
def Pp{m:Md}{p:Pln}{R:Int}{l:aO}{E:List Ev}(h:(jd m p R l E).2=0):(jd m p R l E).1=E.foldl cS l/\cT m p R l=true/\∀e∈E,gl m p R e=true:=by
 unfold jd at h⊢;split
 ·rename_i u;exact⟨rfl,u.1,List.all_eq_true.1 u.2⟩
 ·rename_i v;rw[if_neg v]at h;cases h
def Po{m:Md}{p:Pln}{R:Int}{l:aO}{E:List Ev}(h:(jd m p R l E).2≠0):jd m p R l E=([],1):=by
 unfold jd at h⊢;split
 ·rename_i u;rw[if_pos u]at h;exact absurd rfl h
 ·rfl
end Go.Proofs.YtcgdbhlnkificaaGreatDoor
