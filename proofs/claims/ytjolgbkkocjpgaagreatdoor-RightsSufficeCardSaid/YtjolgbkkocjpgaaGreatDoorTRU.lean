/- Law 39: the reference's Apply and Missing compute what. No condition. -/
import Derived.Test.YtjolgbkkocjpgaaGreatDoorTRP
import Derived.Test.YtjolgbkkocjpgaaGreatDoorTNI
set_option linter.all false
namespace Go.Proofs.YtjolgbkkocjpgaaGreatDoor
open Go.RowKit
set_option maxRecDepth 100000
set_option maxHeartbeats 16000000
def tC{N R:Nat}{z:List (List Int)}{s:cz}(t:cz)(h:bM N R z)(hs:bW N R s):bZ (aP z s) t=if t.i=s.i/\t.r=s.r then IntKind.i64.wrap (bZ z s+s.a)else bZ z t:=by
 obtain⟨x,n,J,Z,hl,V,u⟩:=na h hs;rw[u,V];generalize IntKind.i64.wrap (n+s.a)=v;unfold bZ;by_cases G:t.i=s.i
 ·have y:(z.set s.i (x.set s.r v)).getD s.i []=x.set s.r v:=by rw[List.getD_eq_getElem?_getD,List.getElem?_set_self (aC J)];rfl
  have U:z.getD s.i []=x:=by rw[List.getD_eq_getElem?_getD,J];rfl
  rw[G,y,U];by_cases I:t.r=s.r
  ·rw[I,if_pos ⟨rfl,rfl⟩,List.getD_eq_getElem?_getD,List.getElem?_set_self (aC Z)];rfl
  ·rw[if_neg (fun D=>I D.2),List.getD_eq_getElem?_getD,List.getD_eq_getElem?_getD,List.getElem?_set_ne (Ne.symm I)]
 ·have y:(z.set s.i (x.set s.r v)).getD t.i []=z.getD t.i []:=by rw[List.getD_eq_getElem?_getD,List.getD_eq_getElem?_getD,List.getElem?_set_ne (Ne.symm G)]
  rw[y,if_neg (fun D=>G D.1)]
def qP(s t:cz):Prop:=¬(s.i=t.i/\s.r=t.r)
theorem zJ{N R:Nat}{s:cz}:∀{S:List cz} {z:List (List Int)},(∀t∈S,bW N R t)->(∀t∈S,qP s t)->bM N R z->bZ (S.foldl aP z) s=bZ z s
 |[],_,_,_,_=>rfl
 |t::S,z,h1,h2,h=>by
  have y:=zJ (s:=s) (S:=S) (z:=aP z t) (fun u v=>h1 u (by simp[v])) (fun u v=>h2 u (by simp[v])) (lX h (h1 t (by simp)));show bZ (S.foldl aP (aP z t)) s=_
  rw[y,tC s h (h1 t (by simp)),if_neg (h2 t (by simp))]
theorem vj{c:Int}(hc:c≠0):∀(S:List cz) (z:List (List Int)),(S.foldl bL (z,c)).2=c
 |[],_=>rfl
 |s::S,z=>by
  have h1:bL (z,c) s=(aP z s,c):=by unfold bL ow;rw[if_neg hc]
  show(S.foldl bL (bL (z,c) s)).2=c
  rw[h1];exact vj hc S _
def pu(N R:Nat)(z:List (List Int)):Prop:=∀s,bW N R s->0<=bZ z s/\bZ z s<=1000000000000
theorem Dx{N R:Nat}:∀{S:List cz} {z:List (List Int)},(∀s∈S,bW N R s/\0<=s.a/\s.a<=1000000000000000)->S.Pairwise qP->bM N R z->pu N R z->((S.foldl bL (z,0)).2=0/\pu N R (S.foldl aP z))\/((S.foldl bL (z,0)).2=8/\∃s,bW N R s/\1000000000000 <bZ (S.foldl aP z) s)
 |[],_,_,_,_,h=>.inl ⟨rfl,h⟩
 |s::S,z,h1,h2,h3,h4=>by
  obtain⟨hs,V,Z⟩:=h1 s (by simp);obtain⟨v,y⟩:=List.pairwise_cons.1 h2;have hp:=h4 s hs;have J:IntKind.i64.wrap (bZ z s+s.a)=bZ z s+s.a:=IntWalk.i64_in _ (by omega);have G:bZ (aP z s) s=bZ z s+s.a:=by rw[tC s h3 hs,if_pos ⟨rfl,rfl⟩,J]
  by_cases I:1000000000000 <bZ z s+s.a
  ·right
   have D:bL (z,0) s=(aP z s,8):=by unfold bL ow;rw[if_pos rfl,G,if_neg (by omega),if_pos I]
   refine⟨?_,s,hs,?_⟩
   ·show(S.foldl bL (bL (z,0) s)).2=8
    rw[D];exact vj (by decide) S _
   ·show 1000000000000 <bZ (S.foldl aP (aP z s)) s
    rw[zJ (fun t u=>(h1 t (by simp[u])).1) v (lX h3 hs),G];exact I
  ·have D:bL (z,0) s=(aP z s,0):=by
    unfold bL ow;rw[if_pos rfl,G,if_neg (by omega),if_neg I]
   have U:pu N R (aP z s):=fun t u=>by
    rw[tC t h3 hs];split
    ·rw[J];omega
    ·exact h4 t u
   have ih:=Dx (S:=S) (z:=aP z s) (fun t u=>h1 t (by simp[u])) y (lX h3 hs) U;show((S.foldl bL (bL (z,0) s)).2=0/\_)\/((S.foldl bL (bL (z,0) s)).2=8/\_)
   rw[D];exact ih
def GC{N R:Nat}{z:List (List Int)}(h:bM N R z){x:List Int}{n:Int}(hx:x∈z)(hn:n∈x):∃s,bW N R s/\bZ z s=n:=by
 obtain⟨i,u,rfl⟩:=List.getElem_of_mem hx;obtain⟨r,v,rfl⟩:=List.getElem_of_mem hn;refine⟨⟨i,r,0⟩,⟨by rw[<- h.1];exact u,by rw[<- h.2 _ (List.getElem_mem u)];exact v⟩,?_⟩;unfold bZ;dsimp only;rw[List.getD_eq_getElem?_getD,List.getD_eq_getElem?_getD,List.getElem?_eq_getElem u];simp[v]
def Fq{N R:Nat}{z:List (List Int)}(h:bM N R z){s:cz}(hs:bW N R s):∃x∈z,bZ z s∈x:=by
 obtain⟨x,n,y,v,_,u,_⟩:=na h hs;exact⟨x,List.mem_of_getElem? y,by rw[u];exact List.mem_of_getElem? v⟩
def xb{p:Pln}{R:Nat}{z:List (List Int)}(D:1<=R/\R<=5)(h:bM p.ao.length R z):eI p R z=true↔pu p.ao.length R z:=by
 unfold eI gQ;simp only[Bool.and_eq_true,decide_eq_true_eq,List.all_eq_true];constructor
 ·rintro⟨_,_,h1⟩ s hs;obtain⟨x,u,v⟩:=Fq h hs;exact(h1 x u).2 _ v
 ·intro h1;refine⟨by omega,h.1,fun x u=>⟨by have:=h.2 x u;omega,fun n y=>?_⟩⟩;obtain⟨s,hs,rfl⟩:=GC h u y;exact h1 s hs
theorem yH{m:Md}{k sg:Int}:∀{l:List bI} {i:Nat} {x:bE},x∈aT m k sg i l->(i:Int)<=x.i
 |[],i,x,h=>by unfold aT at h;cases h
 |y::l,i,x,h=>by
  unfold aT at h;split at h
  ·rcases List.mem_cons.1 h with rfl|h
   ·exact Int.le_refl _
   ·have:=yH h;omega
  ·have:=yH h;omega
theorem vi{m:Md}{k sg:Int}:∀(l:List bI) (i:Nat),(aT m k sg i l).Pairwise fun x y=>x.i <y.i
 |[],i=>by unfold aT;exact .nil
 |y::l,i=>by
  unfold aT;split
  ·refine List.pairwise_cons.2 ⟨fun x u=>?_,vi l (i+1)⟩;have:=yH u;dsimp only;omega
  ·exact vi l (i+1)
theorem Cz{m:Md}{k sg:Int}:∀(l:List bI) (i:Nat),fF (aT m k sg i l)=aT m k sg i l
 |[],i=>by unfold aT;rfl
 |y::l,i=>by
  have u:=Cz (m:=m) (k:=k) (sg:=sg) l (i+1);unfold fF at u⊢;unfold aT;split
  ·rw[List.filter_cons,if_pos (by simp),u]
  ·exact u
def uc(m:Md)(p:Pln)(k R:Int):fF (bO m p k R)=aT m k 1 0 p.ao:=by
 have h1:fF (dt m k R 0 p.aD)=[]:=by
  unfold fF;rw[List.filter_eq_nil_iff];intro x u;simpa using xm u
 have h2:=Cz (m:=m) (k:=k) (sg:=1) p.ao 0;unfold bO;unfold fF at h1 h2⊢;rw[List.filter_append,h1,h2,List.append_nil]
def QJ(r:Nat)(sg:Int)(A:List bE):bn r sg (fF A)=bn r sg A:=by
 unfold bn fF;rw[List.filter_filter];simp
def Bj(m:Md)(p:Pln)(e:Ev):du m p e=dw m p e++ii m p e:=by
 unfold du dw ii;by_cases u:e.k=0
 ·rw[if_pos u,if_pos u,if_pos u,uc,<- uc m p e.a e.past.length,QJ]
 ·rw[if_neg u,if_neg u,if_neg u];by_cases v:fq e=true
  ·rw[if_pos v,if_pos v,if_pos v];rfl
  ·rw[if_neg v,if_neg v,if_neg v];rfl
def G3{r:Nat}{sg:Int}{A:List bE}(z:A.Pairwise fun x y=>x.i <y.i)(h0:∀x∈A,0<=x.i):(bn r sg A).Pairwise qP:=by
 unfold bn;rw[List.pairwise_map];refine List.Pairwise.imp_of_mem (fun{x y} u v D=>?_) (z.filter _);rw[List.mem_filter]at u v;have h1:=h0 x u.1;have h2:=h0 y v.1;rintro⟨h3,_⟩;dsimp only at h3;omega
set_option maxHeartbeats 32000000
def Br{m:Md}{p:Pln}{e:Ev}(h:lh m p e):(∀s∈dw m p e,bW p.ao.length e.past.length s/\ -1000000000000000<=s.a/\s.a<=0)/\(dw m p e).Pairwise qP:=by
 obtain⟨ab,D,hr,u,I,U⟩:=h;unfold dw;by_cases y:e.k=0
 ·rw[if_pos y];obtain⟨hv,z,_⟩:=kI.1 (u y);have V:bC m e.a=true:=eC.2 z;rw[uc];have J:=fun x (Z:x∈aT m e.a 1 0 p.ao)=>nw hv V (.inl rfl) Z;refine⟨fun s hs=>?_,G3 (vi _ _) fun x v=>?_⟩
  ·unfold bn at hs;obtain⟨x,v,rfl⟩:=List.mem_map.1 hs;rw[List.mem_filter]at v;obtain⟨j,h1,h2,h3,h4⟩:=J x v.1;have h5:x.i=(j:Int):=by rw[h2]
   exact⟨⟨by dsimp only;omega,by dsimp only;omega⟩,by dsimp only;omega,by dsimp only;omega⟩
  ·obtain⟨j,_,h2,_⟩:=J x v;rw[h2];exact Int.natCast_nonneg _
 ·rw[if_neg y];by_cases G:fq e=true
  ·rw[if_pos G];obtain⟨hg,ad,ha⟩:=I G;refine⟨fun s hs=>?_,List.pairwise_singleton _ _⟩;rw[List.mem_singleton]at hs;subst hs;exact⟨⟨by dsimp only;omega,by dsimp only;omega⟩,by dsimp only;omega,by dsimp only;omega⟩
  ·rw[if_neg G];exact⟨fun s hs=>(by cases hs),.nil⟩
def Dy{m:Md}{p:Pln}{e:Ev}(h:lh m p e):(∀s∈ii m p e,bW p.ao.length e.past.length s/\0<=s.a/\s.a<=1000000000000000)/\(ii m p e).Pairwise qP:=by
 obtain⟨ab,D,hr,u,I,U⟩:=h;unfold ii;by_cases y:e.k=0
 ·rw[if_pos y];obtain⟨hv,z,_⟩:=kI.1 (u y);have V:bC m e.a=true:=eC.2 z;have J:=fun x (Z:x∈aT m e.a (-1) 0 p.ao)=>nw hv V (.inr rfl) Z;refine⟨fun s hs=>?_,G3 (vi _ _) fun x v=>?_⟩
  ·unfold bn at hs;obtain⟨x,v,rfl⟩:=List.mem_map.1 hs;rw[List.mem_filter]at v;obtain⟨j,h1,h2,h3,h4⟩:=J x v.1;have h5:x.i=(j:Int):=by rw[h2]
   exact⟨⟨by dsimp only;omega,by dsimp only;omega⟩,by dsimp only;omega,by dsimp only;omega⟩
  ·obtain⟨j,_,h2,_⟩:=J x v;rw[h2];exact Int.natCast_nonneg _
 ·rw[if_neg y];by_cases G:fq e=true
  ·rw[if_pos G];obtain⟨hg,ad,ha⟩:=I G;refine⟨fun s hs=>?_,List.pairwise_singleton _ _⟩;rw[List.mem_singleton]at hs;subst hs;exact⟨⟨by dsimp only;omega,by dsimp only;omega⟩,by dsimp only;omega,by dsimp only;omega⟩
  ·rw[if_neg G];exact⟨fun s hs=>(by cases hs),.nil⟩
end Go.Proofs.YtjolgbkkocjpgaaGreatDoor
