/- Tokens as the code reads them: the first token of a. No condition. -/
import Derived.Test.YtcgdbhlnkificaaGreatDoorTS
set_option linter.all false
namespace Go.Proofs.YtcgdbhlnkificaaGreatDoor
def dG(b:UInt8):Bool:=!decide (b.toNat=10)
theorem FR:∀(l:List UInt8),aV true l=aP dG l+aV false (l.drop (aP dG l))
 |[]=>rfl
 |b::r=>by
  by_cases h:b.toNat=10
  ·have u:aV true (b::r)=aV false r+1:=by rw[aV,if_pos h]
   have v:aP dG (b::r)=0:=by unfold aP;rw[if_neg (by simp[dG,h])]
   have y:aV false (b::r)=aV false r+1:=by rw[aV,if_pos (by simp[dz,h])]
   rw[u,v,List.drop_zero,y];omega
  ·have u:aV true (b::r)=aV true r+1:=by rw[aV,if_neg h]
   have v:aP dG (b::r)=aP dG r+1:=by rw[aP,if_pos (by simp[dG,h])]
   rw[u,v,List.drop_succ_cons,FR r];omega
def Pe{b:UInt8}{r:List UInt8}(h1:dz b=false)(h:b.toNat=35):aV false (b::r)=aP dG (b::r)+aV false ((b::r).drop (aP dG (b::r))):=by
 have u:aV false (b::r)=aV true r+1:=by rw[aV,if_neg (by simp[h1]),if_pos h]
 have v:aP dG (b::r)=aP dG r+1:=by rw[aP,if_pos (by simp[dG,h])]
 rw[u,v,List.drop_succ_cons,FR r];omega
def lW:List (List UInt8):=[[61,61],[33,61],[60,61],[62,61],[46,46]]
def lV:List UInt8:=[60,62,61,43,45,42,40,41,123,125,44,58,59]
def td(s t:List UInt8):Bool:=decide (s.length<=t.length)&&decide (t.take s.length=s)
def fA(t:List UInt8):Nat:=if lW.any (fun s=>td s t)=true then 2 else match t with
 |[]=>0
 |b::_=>if b∈lV then 1 else 0
theorem Gm:∀(S:List (List UInt8)) (T:List (List UInt8)) (t:List UInt8),(∀s∈S,s.length=2)->eS (S++T) t=if S.any (fun s=>td s t)=true then 2 else eS T t
 |[],T,t,_=>by simp
 |s::S,T,t,h=>by
  rw[List.cons_append,eS,Gm S T t fun x v=>h x (by simp[v]),List.any_cons];have hs:=h s (by simp);by_cases u:s.length<=t.length/\t.take s.length=s
  ·rw[if_pos u];have:td s t=true:=by unfold td;simp[u]
   rw[this,Bool.true_or,if_pos rfl,hs]
  ·rw[if_neg u]
   have:td s t=false:=by
    unfold td;rw[<- Bool.not_eq_true,Bool.and_eq_true,decide_eq_true_eq,decide_eq_true_eq];exact u
   rw[this,Bool.false_or]
theorem Gl:∀(S:List UInt8) (b:UInt8) (r:List UInt8),eS (S.map fun c=>[c]) (b::r)=if b∈S then 1 else 0
 |[],b,r=>by simp[eS]
 |c::S,b,r=>by
  rw[List.map_cons,eS,Gl S b r];by_cases h:b=c
  ·rw[if_pos ⟨by simp,by simp[h]⟩,if_pos (by simp[h])];rfl
  ·rw[if_neg (by rintro⟨_,h2⟩;simp at h2;exact h h2)];simp only[List.mem_cons,h,false_or]
theorem Gk:∀(S:List UInt8),eS (S.map fun c=>[c]) []=0
 |[]=>rfl
 |c::S=>by rw[List.map_cons,eS,if_neg (by simp),Gk S]
def Gn(t:List UInt8):fA t=im t:=by
 have e:p_=lW++lV.map fun c=>[c]:=by decide
 unfold im fA;rw[e,Gm _ _ _ (by decide)]
 cases t with
 |nil=>simp only[Gk]
 |cons b r=>simp only[Gl]
def pe(b:UInt8)(r:List UInt8):Bool:=eA b ||(bV b ||decide (0 <fA (b::r)))
def l6:List UInt8->Nat
 |[]=>0
 |b::r=>if(!dz b&&(!decide (b.toNat=35)&&!pe b r))=true then l6 r+1 else 0
def gD:List UInt8->Int×Nat
 |[]=>(0,0)
 |b::r=>
  if eA b=true then(if(b::r).take (aP ca (b::r))∈cQ then 2 else 1,aP ca (b::r))
  else if bV b=true then(3,aP bV (b::r))
  else if 0 <fA (b::r)then(4,fA (b::r))
  else(5,1+l6 r)
def ot(l:List UInt8):Int:=if l.length=0\/4096 <l.length then 0 else
 if aV false l=0/\aV false l+(gD (l.drop (aV false l))).2=l.length then(gD (l.drop (aV false l))).1 else 0
theorem GX:∀(l:List UInt8),l6 l=eE l
 |[]=>rfl
 |b::r=>by
  rw[l6,eE,GX r,<- Gn]
  have:(!dz b&&(!decide (b.toNat=35)&&!pe b r))=true↔(dz b=false/\b.toNat≠35)/\(eA b=false/\bV b=false/\fA (b::r)=0):=by
   unfold pe;simp only[Bool.and_eq_true,Bool.not_eq_true',Bool.or_eq_false_iff,decide_eq_false_iff_not];constructor
   ·rintro⟨h1,h2,h3,h4,v⟩;exact⟨⟨h1,h2⟩,h3,h4,by omega⟩
   ·rintro⟨⟨h1,h2⟩,h3,h4,v⟩;exact⟨h1,h2,h3,h4,by omega⟩
  by_cases h:(!dz b&&(!decide (b.toNat=35)&&!pe b r))=true
  ·rw[if_pos h,if_pos (this.1 h)]
  ·rw[if_neg h,if_neg fun u=>h (this.2 u)]
def PX{b:UInt8}{r:List UInt8}(h1:dz b=false)(h2:b.toNat≠35):gD (b::r)=ff (b::r):=by
 rw[Rf,gD,Gn];split
 ·rfl
 ·rename_i h3;split
  ·rfl
  ·rename_i h4;split
   ·rfl
   ·rename_i u;rw[eE,if_pos ⟨⟨h1,h2⟩,by simpa using h3,by simpa using h4,by omega⟩,GX];rw[Nat.add_comm]
def KC(l:List UInt8):ot l=ou l:=by
 unfold ot ou;by_cases h1:4096 <l.length
 ·rw[if_pos (.inr h1),if_pos h1]
 ·rw[if_neg h1];by_cases y:l.length=0
  ·have:l=[]:=List.length_eq_zero_iff.1 y;subst this;rfl
  ·rw[if_neg (by omega)];unfold p7 jP;rw[Nat.zero_add,List.drop_zero];by_cases hs:aV false l=0
   ·have v:0 <l.length:=by omega
    rw[hs];simp only[Nat.zero_add,true_and,List.drop_zero,if_pos v]
    cases l with
    |nil=>exact absurd rfl y
    |cons b r=>
     obtain⟨z,a2⟩:=FV (b::r) b r (by rw[hs];rfl);rw[PX z a2];by_cases u:(ff (b::r)).2=(b::r).length
     ·rw[if_pos u]
      have:jP (b::r) (b::r).length (ff (b::r)).2=[⟨0,(b::r).length,(b::r).length,(b::r).length⟩]:=by
       rw[u,List.length_cons,jP,if_neg (by simp)];rfl
      rw[this];simp only[u,and_self,if_true]
     ·rw[if_neg u];split
      ·rename_i t x e;rw[List.cons.injEq]at e;rw[<- e.1];simp only[u,and_false,if_false]
      ·rfl
   ·rw[if_neg (by simp[hs])];split
    ·rename_i t x e;split at e
     ·rw[List.cons.injEq]at e;rw[<- e.1];simp only[hs,false_and,if_false]
     ·cases e
    ·rfl
structure sb where
 e:Int
 f:Int
 hold:Bool
 idx:Int
 st:List Int
structure bM where
 bu:Int
 s:sb
structure Mem where
 act:Int
 s:sb
structure Lck where
 a:Int
 b:Int
 pa:Int
 pb:Int
 mem:List Mem
structure Pln where
 aM:List bM
 aA:List Lck
 places:List Mem
 bj:List Int
def AP:sb:=⟨0,0,false,0,[]⟩
def xc:bM:=⟨0,AP⟩
def QE:Lck:=⟨0,0,0,0,[]⟩
section
variable (m:Md)
def bh(k:Int):Int:=(m.ax.getD k.toNat fD).op
def dZ(o:Int):fX:=m.ops.getD o.toNat uf
def b9(k:Int):Bool:=decide (0<=k)&&decide (k <m.ax.length)
def ci{α:Type}(f:α->Int)(l:List α):Bool:=allI (fun i x=>decide (i=0)||match l[i - 1]? with|some y=>decide (f y <f x)|none=>false) l
def gp(fit:Int->Bool)(l:List Mem):Bool:=ci Mem.act l&&l.all fun x=>b9 m x.act&&fit (bh m x.act)
def gz(o k:Int):Int:=if 0<=k/\k <(dZ m o).ao.length then(dZ m o).ao.getD k.toNat 0 else -1
def jL(L:Lck):Bool:=(decide (L.pa= -1)&&decide (L.pb= -1))||(decide (0<=gz m L.a L.pa)&&(decide (gz m L.a L.pa=gz m L.b L.pb)&&(!decide (L.a=L.b)||decide (L.pa=L.pb))))
def dh(L:Lck):Bool:=(decide (0<=L.a)&&(decide (L.a<=L.b)&&decide (L.b <m.ops.length)))&&(jL m L&&gp m (fun o=>decide (o=L.a)||decide (o=L.b)) L.mem)
def sG(l:List bM):Bool:=ci bM.bu l&&l.all fun x=>(decide (0<=x.bu)&&decide (x.bu <m.cons.length))&&decide ((m.cons.getD x.bu.toNat k7).kind=0)
def eP(o:Int):Bool:=(decide (0<=o)&&decide (o <m.ops.length))&&(dZ m o).ord
def jI(L:Lck):Int:=L.a*8+L.b
def vK(p:Pln):Bool:=ci id p.bj&&p.bj.all fun o=>eP m o&&!p.places.any fun x=>decide (bh m x.act=o)
def cy(p:Pln):Bool:=(b6 m&&decide (p.aA.length<=64))&&((sG m p.aM&&(p.aA.all (dh m)&&ci jI p.aA))&&(gp m (eP m) p.places&&vK m p))
def gL(L:Lck)(k:Int):Bool:=L.mem.any fun x=>decide (x.act=k)
def h_(p:Pln)(k:Int):Bool:=p.places.any fun x=>decide (x.act=k)
def mN(L:Lck)(k:Int):Bool:=decide (bh m k=L.b)
def lc(k i:Int):Int:=(m.ax.getD k.toNat fD).args.getD i.toNat 0
def j9(L:Lck)(k:Int):Int:=if L.pa <0 then 0 else if bh m k=L.a then lc m k L.pa else lc m k L.pb
def n9(L:Lck):Int:=if L.pa <0 then 1 else m.ao.getD (gz m L.a L.pa).toNat 0
def ox(p:Pln)(i:Int):Lck:=p.aA.getD i.toNat QE
def q6(p:Pln)(i:Int):Bool:=decide (0<=i)&&decide (i <p.aA.length)
def eh(l:List bP)(c:Int):Int:=match l.find? fun d=>decide (d.cell=c)with
 |some d=>d.add
 |none=>0
def pg(l:List bP)(r:Rw):Int:=r.bt.foldl (fun n t=>n+t.bZ*eh l t.cell) 0
def eW(k:Int)(r:Rw):Int:=pg (m.ax.getD k.toNat fD).eff.delta r
def rowOf(x:bM):Rw:=(m.cons.getD x.bu.toNat k7).row
structure cz where
 k:Int
 i:Int
 el:Int
 n:Int
deriving DecidableEq
def cZ(k sg:Int):Nat->List bM->List cz
 |_,[]=>[]
 |i,x::l=>if 0 <sg*eW m k (rowOf m x)then⟨0,i,0,sg*eW m k (rowOf m x)⟩::cZ k sg (i+1) l else cZ k sg (i+1) l
def fy(k r:Int):Nat->List Lck->List cz
 |_,[]=>[]
 |i,L::l=>if gL L k=true then⟨1,i,j9 m L k,if mN m L k=true then r else 1⟩::fy k r (i+1) l else fy k r (i+1) l
def dS(p:Pln)(k r:Int):List cz:=cZ m k 1 0 p.aM++fy m k r 0 p.aA
def tP(s:List Int)(r:Rw):Int:=r.bt.foldl (fun n t=>n - t.bZ*s.getD t.cell.toNat 0) r.jZ
def oN(p:Pln)(s:List Int):List Int:=p.aM.map fun x=>tP s (rowOf m x)
end
def tJ{α:Type}{f:α->Int}{l:List α}:ci f l=true↔l.Pairwise fun y x=>f y <f x:=by
 have U:ci f l=true↔∀(i:Nat) (y x:α),l[i]?=some y->l[i+1]?=some x->f y <f x:=by
  unfold ci;rw[eU];constructor
  ·intro h i y x v u;have:=h (i+1) x u;simp only[Nat.add_sub_cancel,v]at this;simpa using this
  ·intro h k x u
   cases k with
   |zero=>simp
   |succ k=>
    have G:k+1 <l.length:=(List.getElem?_eq_some_iff.1 u).1;have v:l[k]?=some l[k]:=List.getElem?_eq_getElem (by omega);simp only[Nat.add_sub_cancel,v];have:=h k _ x v u;simpa using this
 rw[U,List.pairwise_iff_getElem];constructor
 ·intro h
  have I:∀(d i:Nat) (y x:α),l[i]?=some y->l[i+(d+1)]?=some x->f y <f x:=by
   intro d
   induction d with
   |zero=>exact fun i y x v u=>h i y x v u
   |succ d Z=>
    intro i y x v u;have G:i+(d+1+1)<l.length:=(List.getElem?_eq_some_iff.1 u).1;have J:l[i+(d+1)]?=some l[i+(d+1)]:=List.getElem?_eq_getElem (by omega);exact Int.lt_trans (Z i y _ v J) (h (i+(d+1)) _ x J u)
  intro i j z D V;exact I (j - i - 1) i _ _ (List.getElem?_eq_getElem z) (by rw[show i+(j - i - 1+1)=j by omega];exact List.getElem?_eq_getElem D)
 ·intro h i y x v u;obtain⟨z,rfl⟩:=List.getElem?_eq_some_iff.1 v;obtain⟨D,rfl⟩:=List.getElem?_eq_some_iff.1 u;exact h i (i+1) z D (by omega)
def zS{α:Type}{f:α->Int}{l u:List α}(hs:u.Sublist l)(h:ci f l=true):ci f u=true:=tJ.2 ((tJ.1 h).sublist hs)
def Hk{α:Type}{f:α->Bool}{l u:List α}(hs:u.Sublist l)(h:u.any f=true):l.any f=true:=by
 obtain⟨x,y,v⟩:=List.any_eq_true.1 h;exact List.any_eq_true.2 ⟨x,hs.subset y,v⟩
section
variable {m:Md} {p:Pln} {e f k R:Int} {L:Lck}
structure la (m:Md) (p:Pln):Prop where
 lH:b6 m=true
 gb:p.aA.length<=64
 qL:ci bM.bu p.aM=true
 aM:∀x∈p.aM,(0<=x.bu/\x.bu <m.cons.length)/\(m.cons.getD x.bu.toNat k7).kind=0
 lock:∀L∈p.aA,dh m L=true
 Dz:ci jI p.aA=true
 Ex:ci Mem.act p.places=true
 place:∀x∈p.places,b9 m x.act=true/\eP m (bh m x.act)=true
 rm:ci id p.bj=true
 bj:∀o∈p.bj,eP m o=true/\∀x∈p.places,bh m x.act≠o
def kU:cy m p=true↔la m p:=by
 unfold cy sG gp vK;simp only[Bool.and_eq_true,decide_eq_true_eq,List.all_eq_true,Bool.not_eq_true',<- Bool.not_eq_true,List.any_eq_true,not_exists,not_and];constructor
 ·rintro⟨⟨h1,h2⟩,⟨⟨h3,h4⟩,v,y⟩,⟨z,D⟩,G,u⟩;exact⟨h1,h2,h3,h4,v,y,z,D,G,u⟩
 ·rintro⟨h1,h2,h3,h4,v,y,z,D,G,u⟩;exact⟨⟨h1,h2⟩,⟨⟨h3,h4⟩,v,y⟩,⟨z,D⟩,G,u⟩
structure iQ (m:Md) (L:Lck):Prop where
 a0:0<=L.a
 ab:L.a<=L.b
 b:L.b <m.ops.length
 Mt:jL m L=true
 LH:ci Mem.act L.mem=true
 mem:∀x∈L.mem,b9 m x.act=true/\(bh m x.act=L.a\/bh m x.act=L.b)
def lE:dh m L=true↔iQ m L:=by
 unfold dh gp;simp only[Bool.and_eq_true,decide_eq_true_eq,List.all_eq_true,Bool.or_eq_true];constructor
 ·rintro⟨⟨h1,h2,h3⟩,h4,u,v⟩;exact⟨h1,h2,h3,h4,u,v⟩
 ·rintro⟨h1,h2,h3,h4,u,v⟩;exact⟨⟨h1,h2,h3⟩,h4,u,v⟩
def Mu:gL L k=true↔∃x∈L.mem,x.act=k:=by
 unfold gL;simp only[List.any_eq_true,decide_eq_true_eq]
def zx:h_ p k=true↔∃x∈p.places,x.act=k:=by
 unfold h_;simp only[List.any_eq_true,decide_eq_true_eq]
def iQ.part(h:iQ m L)(hp:gL L k=true):b9 m k=true/\(bh m k=L.a\/bh m k=L.b):=by
 obtain⟨x,u,rfl⟩:=Mu.1 hp;exact h.mem x u
def la.ME(h:la m p)(hp:h_ p k=true):b9 m k=true/\eP m (bh m k)=true:=by
 obtain⟨x,u,rfl⟩:=zx.1 hp;exact h.place x u
def iQ.write(h:iQ m L)(hp:gL L k=true):(decide (L.a=L.b)||decide (bh m k=L.b))=mN m L k:=by
 have:=(h.part hp).2;unfold mN;by_cases h1:L.a=L.b
 ·have:bh m k=L.b:=by omega
  simp[this]
 ·simp[h1]
def iQ.tE(h:iQ m L):(L.pa= -1/\L.pb= -1)\/((0<=L.pa/\L.pa <(dZ m L.a).ao.length)/\(0<=L.pb/\L.pb <(dZ m L.b).ao.length)/\(dZ m L.a).ao.getD L.pa.toNat 0=(dZ m L.b).ao.getD L.pb.toNat 0/\0<=(dZ m L.a).ao.getD L.pa.toNat 0/\gz m L.a L.pa=(dZ m L.a).ao.getD L.pa.toNat 0):=by
 have u:=h.Mt;unfold jL at u;simp only[Bool.or_eq_true,Bool.and_eq_true,decide_eq_true_eq]at u;rcases u with u|⟨h1,h2,_⟩
 ·exact .inl u
 ·right
  unfold gz at h1 h2⊢;split at h1
  ·rename_i v;rw[if_pos v]at h2⊢;split at h2
   ·rename_i y;exact⟨v,y,h2,h1,rfl⟩
   ·omega
  ·omega
def iQ.elem(h:iQ m L):j9 m L k=(if(if bh m k=L.a then L.pa else L.pb)<0 then 0 else lc m k (if bh m k=L.a then L.pa else L.pb)):=by
 unfold j9;rcases h.tE with⟨h1,h2⟩|⟨⟨h1,_⟩,⟨h2,_⟩,_⟩
 ·rw[h1,h2];simp
 ·have v:¬L.pa <0:=by omega
  have y:¬L.pb <0:=by omega
  by_cases u:bh m k=L.a
  ·simp only[u,if_true,v,if_false]
  ·simp only[u,if_false,v,y]
def uu(h:b6 m=true){a:eF}{i:Nat}(ha:m.ax[i]?=some a):dk m (bW m.ao m.tables true).length i a=true:=by
 unfold b6 nP at h;simp only[Bool.and_eq_true]at h;exact eU.1 h.2.2.1.2 i a ha
def jB:b9 m k=true↔0<=k/\k <m.ax.length:=by
 unfold b9;simp only[Bool.and_eq_true,decide_eq_true_eq]
def getD_some{α:Type}{l:List α}{i:Nat}{z:α}(h:i <l.length):l[i]?=some (l.getD i z):=by
 rw[List.getD_eq_getElem?_getD,List.getElem?_eq_getElem h];rfl
def qp(h:b9 m k=true):m.ax[k.toNat]?=some (m.ax.getD k.toNat fD):=getD_some (by have:=jB.1 h;omega)
def Bg(h:b6 m=true)(hk:b9 m k=true){i:Int}(hi:0<=i)(hl:i <(dZ m (bh m k)).ao.length)(hs:0<=(dZ m (bh m k)).ao.getD i.toNat 0):0<=lc m k i/\lc m k i <m.ao.getD ((dZ m (bh m k)).ao.getD i.toNat 0).toNat 0:=by
 have v:=uu h (qp hk);unfold dk at v;simp only[Bool.and_eq_true,decide_eq_true_eq]at v;have y:=v.1.1.2
 have u:=eU.1 v.1.2 i.toNat (lc m k i) (by
  unfold lc;exact getD_some (by unfold dZ bh at hl;omega))
 unfold jY at u;have e:(m.ops.getD (m.ax.getD k.toNat fD).op.toNat uf).ao.getD i.toNat 0=(dZ m (bh m k)).ao.getD i.toNat 0:=rfl;rw[e,if_neg (by omega)]at u;simpa using u
def Ca(h:b6 m=true)(z:iQ m L)(hp:gL L k=true):0<=j9 m L k/\j9 m L k <n9 m L:=by
 obtain⟨D,I⟩:=z.part hp;unfold j9 n9;rcases z.tE with⟨h1,h2⟩|⟨⟨h1,u⟩,⟨h2,v⟩,h3,h4,G⟩
 ·have y:L.pa <0:=by omega
  simp only[y,if_true];omega
 ·have y:¬L.pa <0:=by omega
  simp only[y,if_false];rw[G];split
  ·rename_i e;have:=Bg h D h1 (by rw[e];exact u) (by rw[e];exact h4);rw[e]at this;exact this
  ·rename_i e;have e:bh m k=L.b:=by omega
   have:=Bg h D h2 (by rw[e];exact v) (by rw[e,<- h3];exact h4);rw[e,<- h3]at this;exact this
theorem yX:∀{l:List Lck} {i:Nat} {x:cz},x∈fy m k R i l↔∃(j:Nat) (L:Lck),l[j]?=some L/\gL L k=true/\x=⟨1,((i+j:Nat):Int),j9 m L k,if mN m L k=true then R else 1⟩
 |[],i,x=>by simp[fy]
 |L::l,i,x=>by
  have e:x∈fy m k R i (L::l)↔(gL L k=true/\x=⟨1,(i:Int),j9 m L k,if mN m L k=true then R else 1⟩)\/x∈fy m k R (i+1) l:=by
   rw[fy];split <;>simp[*]
  rw[e,yX (l:=l) (i:=i+1)];constructor
  ·rintro(⟨h1,h2⟩|⟨j,M,h1,h2,h3⟩)
   ·exact⟨0,L,rfl,h1,h2⟩
   ·exact⟨j+1,M,by simpa using h1,h2,by rw[h3,show i+1+j=i+(j+1) by omega]⟩
  ·rintro⟨j,M,h1,h2,h3⟩
   cases j with
   |zero=>cases h1;exact .inl ⟨h2,h3⟩
   |succ j=>exact .inr ⟨j,M,by simpa using h1,h2,by rw[h3,show i+1+j=i+(j+1) by omega]⟩
theorem yW{s:Int}:∀{l:List bM} {i:Nat} {x:cz},x∈cZ m k s i l↔∃(j:Nat) (y:bM),l[j]?=some y/\0 <s*eW m k (rowOf m y)/\x=⟨0,((i+j:Nat):Int),0,s*eW m k (rowOf m y)⟩
 |[],i,x=>by simp[cZ]
 |y::l,i,x=>by
  have e:x∈cZ m k s i (y::l)↔(0 <s*eW m k (rowOf m y)/\x=⟨0,(i:Int),0,s*eW m k (rowOf m y)⟩)\/x∈cZ m k s (i+1) l:=by
   rw[cZ];split <;>simp[*]
  rw[e,yW (l:=l) (i:=i+1)];constructor
  ·rintro(⟨h1,h2⟩|⟨j,z,h1,h2,h3⟩)
   ·exact⟨0,y,rfl,h1,h2⟩
   ·exact⟨j+1,z,by simpa using h1,h2,by rw[h3,show i+1+j=i+(j+1) by omega]⟩
  ·rintro⟨j,z,h1,h2,h3⟩
   cases j with
   |zero=>cases h1;exact .inl ⟨h2,h3⟩
   |succ j=>exact .inr ⟨j,z,by simpa using h1,h2,by rw[h3,show i+1+j=i+(j+1) by omega]⟩
def la.FI(h:la m p)(D:2<=R){x:cz}(hx:x∈dS m p e R)(hk:x.k=1):∃(j:Nat) (L:Lck),p.aA[j]?=some L/\x.i=(j:Int)/\gL L e=true/\mN m L e=decide (x.n=R)/\x.el=j9 m L e/\0<=x.el/\x.el <n9 m L:=by
 unfold dS at hx;rcases List.mem_append.1 hx with hx|hx
 ·obtain⟨j,z,_,_,rfl⟩:=yW.1 hx;cases hk
 ·obtain⟨j,L,u,v,rfl⟩:=yX.1 hx;have y:=lE.1 (h.lock L (List.mem_of_getElem? u));have:=Ca h.lH y v;refine⟨j,L,u,by simp,v,?_,rfl,this.1,this.2⟩;show mN m L e=decide ((if mN m L e=true then R else 1)=R)
  cases mN m L e with
  |true=>simp
  |false=>simp;omega
end
def tT(d:List bP)(c:Int):Int:=d.foldl (fun n x=>if x.cell=c then n+x.add else n) 0
def rB(s:List Int)(d:List bP):List Int:=(List.range s.length).map fun i=>s.getD i 0+tT d i
def MJ{s:List Int}{d:List bP}{i:Nat}(h:i <s.length):(rB s d).getD i 0=s.getD i 0+tT d i:=by
 unfold rB;rw[List.getD_eq_getElem?_getD,List.getElem?_map,List.getElem?_range h];rfl
theorem Gh{c:Int}:∀(d:List bP) (a:Int),(∀x∈d,x.cell≠c)->d.foldl (fun n x=>if x.cell=c then n+x.add else n) a=a
 |[],a,_=>rfl
 |x::d,a,h=>by
  rw[List.foldl_cons,if_neg (h x (by simp))];exact Gh d a fun y u=>h y (by simp[u])
def A5(x:bP)(d:List bP)(c:Int):eh (x::d) c=if x.cell=c then x.add else eh d c:=by
 unfold eh;rw[List.find?_cons];by_cases h:x.cell=c <;>simp[h]
theorem Gi:∀{d:List bP} {c:Int},d.Pairwise (fun y x=>y.cell <x.cell)->tT d c=eh d c
 |[],c,_=>rfl
 |x::d,c,h=>by
  rw[List.pairwise_cons]at h;rw[A5];by_cases u:x.cell=c
  ·rw[if_pos u];unfold tT;rw[List.foldl_cons,if_pos u,Gh _ _ fun y v=>by have:=h.1 y v;omega];omega
  ·rw[if_neg u,<- Gi h.2];unfold tT;rw[List.foldl_cons,if_neg u]
def G9(d:List bP)(c:Int):eh d c=0\/∃x∈d,x.cell=c/\eh d c=x.add:=by
 unfold eh
 cases u:d.find? (fun x=>decide (x.cell=c))with
 |none=>exact .inl rfl
 |some x=>exact .inr ⟨x,List.mem_of_find?_eq_some u,by simpa using List.find?_some u,rfl⟩
section
variable {m:Md} {p:Pln} {e f k R:Int} {L:Lck}
def xL(h:b6 m=true)(hk:b9 m k=true):allI (eX (bW m.ao m.tables true).length (m.ax.getD k.toNat fD).eff.delta) (m.ax.getD k.toNat fD).eff.delta=true:=by
 have u:=uu h (qp hk);unfold dk ll at u;simp only[Bool.and_eq_true]at u;exact u.2.2.1.1
def H2{n:Int}{d:List bP}(h:allI (eX n d) d=true):d.Pairwise fun y x=>y.cell <x.cell:=by
 refine(tJ (f:=bP.cell)).1 ?_;unfold ci;rw[eU]at h⊢;intro i x u;have:=h i x u;unfold eX at this;simp only[Bool.and_eq_true,Bool.or_eq_true,decide_eq_true_eq]at this
 cases i with
 |zero=>simp
 |succ i=>
  have v:i+1 <d.length:=(List.getElem?_eq_some_iff.1 u).1;have z:d[i]?=some (d.getD i ⟨0,0⟩):=getD_some (by omega);rw[Nat.add_sub_cancel,z];have h2:=this.2.1;rw[Nat.add_sub_cancel]at h2;rcases h2 with h2|h2
  ·omega
  ·simpa using h2
def PT{n:Int}{l:List Tm}(h:allI (fU n l) l=true):l.Pairwise fun y x=>y.cell <x.cell:=by
 refine(tJ (f:=Tm.cell)).1 ?_;unfold ci;rw[eU]at h⊢;intro i x u;have:=h i x u;unfold fU at this;simp only[Bool.and_eq_true,Bool.or_eq_true,decide_eq_true_eq]at this
 cases i with
 |zero=>simp
 |succ i=>
  have v:i+1 <l.length:=(List.getElem?_eq_some_iff.1 u).1;have z:l[i]?=some (l.getD i ⟨0,0⟩):=getD_some (by omega);rw[Nat.add_sub_cancel,z];have h2:=this.2.1;rw[Nat.add_sub_cancel]at h2;rcases h2 with h2|h2
  ·omega
  ·simpa using h2
def AC{n:Int}{l:List Tm}(h:allI (fU n l) l=true){t:Tm}(ht:t∈l):(0<=t.cell/\t.cell <n)/\(-1000<=t.bZ/\t.bZ<=1000):=by
 obtain⟨i,u⟩:=List.mem_iff_getElem?.1 ht;have:=eU.1 h i t u;unfold fU cA at this;simp only[Bool.and_eq_true,decide_eq_true_eq]at this;exact⟨this.1,this.2.2.2⟩
def H1{n:Int}{l:List bP}(h:allI (eX n l) l=true){t:bP}(ht:t∈l):(0<=t.cell/\t.cell <n)/\(-1000000000<=t.add/\t.add<=1000000000):=by
 obtain⟨i,u⟩:=List.mem_iff_getElem?.1 ht;have:=eU.1 h i t u;unfold eX cA at this;simp only[Bool.and_eq_true,decide_eq_true_eq]at this;exact⟨this.1,this.2.2.2⟩
def G_{n:Int}{d:List bP}(h:allI (eX n d) d=true)(c:Int): -1000000000<=eh d c/\eh d c<=1000000000:=by
 rcases G9 d c with h1|⟨x,u,_,h1⟩
 ·omega
 ·rw[h1];exact(H1 h u).2
def Gv{n:Nat}{l:List Tm}(h:allI (fU n l) l=true):l.length<=n:=by
 have:=zm n (l.map Tm.cell) (by
  have:=PT h;rw[List.Nodup,List.pairwise_map];exact this.imp fun h=>Int.ne_of_lt h) (by
  intro x v;obtain⟨t,u,rfl⟩:=List.mem_map.1 v;exact(AC h u).1)
 simpa using this
def la.row(h:la m p){x:bM}(hx:x∈p.aM):cI (bW m.ao m.tables true).length (rowOf m x)=true:=by
 obtain⟨⟨h1,h2⟩,h3⟩:=h.aM x hx;have u:=h.lH;unfold b6 li at u;simp only[Bool.and_eq_true]at u;have:=eU.1 u.2.1.2.2 x.bu.toNat _ (getD_some (z:=k7) (by omega));unfold jq at this;simp only[Bool.and_eq_true,Bool.or_eq_true,decide_eq_true_eq]at this;rcases this.2 with h4|h4
 ·exact h4.2.2.2
 ·omega
def v_{n:Int}{r:Rw}(h:cI n r=true):allI (fU n r.bt) r.bt=true:=by
 unfold cI at h;simp only[Bool.and_eq_true]at h;exact h.1
def LU{a b A B:Int}(ha : -A<=a/\a<=A)(hb : -B<=b/\b<=B): -(A*B)<=a*b/\a*b<=A*B:=by
 have u:0<=A:=by omega
 have v:0<=B:=by omega
 have h:(a*b).natAbs<=(A*B).natAbs:=by
  rw[Int.natAbs_mul,Int.natAbs_mul];exact Nat.mul_le_mul (by omega) (by omega)
 have:0<=A*B:=Int.mul_nonneg u v;omega
def PA{α:Type}{g:Int->α->Int}{B:Int}(z:0<=B){l:List α}(hg:∀n,∀x∈l,n - B<=g n x/\g n x<=n+B)(a:Int):a - B*l.length<=l.foldl g a/\l.foldl g a<=a+B*l.length:=by
 induction l generalizing a with
 |nil=>simp
 |cons x l v=>
  have h1:=hg a x (by simp);have h2:=v (fun n y u=>hg n y (by simp[u])) (g a x);rw[List.foldl_cons,List.length_cons]
  have e:B*((l.length+1:Nat):Int)=B*l.length+B:=by
   rw[Int.natCast_add,Int.mul_add];simp
  rw[e];omega
theorem uH{s:Int}:∀(l:List bM) (i:Nat),(cZ m k s i l).length=l.countP fun y=>decide (0 <s*eW m k (rowOf m y))
 |[],_=>rfl
 |y::l,i=>by
  rw[cZ,List.countP_cons];split
  ·rename_i h;rw[List.length_cons,uH l (i+1)];simp[h]
  ·rename_i h;rw[uH l (i+1)];simp[h]
theorem wu:∀(l:List Lck) (i:Nat),(fy m k R i l).length=l.countP fun L=>gL L k
 |[],_=>rfl
 |L::l,i=>by
  rw[fy,List.countP_cons];split
  ·rename_i h;rw[List.length_cons,wu l (i+1)]
  ·rename_i h;rw[wu l (i+1)];simp[h]
structure qn (q p:Pln):Prop where
 aM:q.aM.Sublist p.aM
 aA:q.aA.Sublist p.aA
 places:q.places.Sublist p.places
 bj:q.bj=p.bj
def qn.ok{q:Pln}(hq:qn q p)(h:la m p):la m q where
 lH:=h.lH
 gb:=Nat.le_trans hq.aA.length_le h.gb
 qL:=zS hq.aM h.qL
 aM:=fun x u=>h.aM x (hq.aM.subset u)
 lock:=fun L y=>h.lock L (hq.aA.subset y)
 Dz:=zS hq.aA h.Dz
 Ex:=zS hq.places h.Ex
 place:=fun x u=>h.place x (hq.places.subset u)
 rm:=by rw[hq.bj];exact h.rm
 bj:=fun o v=>by rw[hq.bj]at v;exact⟨(h.bj o v).1,fun x u=>(h.bj o v).2 x (hq.places.subset u)⟩
def qn.DX{q:Pln}(hq:qn q p):(dS m q k R).length<=(dS m p k R).length:=by
 unfold dS;rw[List.length_append,List.length_append,uH,uH,wu,wu];exact Nat.add_le_add (hq.aM.countP_le) (hq.aA.countP_le)
def qn.ME{q:Pln}(hq:qn q p)(h:h_ q k=true):h_ p k=true:=Hk hq.places h
end
def aS{α:Type}(f:α->Int)(l:List α):Nat->Int
 |0=> -1
 |i+1=>match l[i]? with
  |some y=>f y
  |none=> -1
def vy{α:Type}{f:α->Int}{g:α->Bool}{l:List α}:allI (fun i x=>decide (aS f l i <f x)&&g x) l=(ci f l&&l.all fun x=>decide (0<=f x)&&g x):=by
 rw[Bool.eq_iff_iff,Bool.and_eq_true,eU];unfold ci;rw[eU,List.all_eq_true];constructor
 ·intro h
  have h1:∀(i:Nat) (x:α),l[i]?=some x->0<=f x:=by
   intro i
   induction i with
   |zero=>
    intro x u;have:=h 0 x u;rw[Bool.and_eq_true,decide_eq_true_eq]at this;have h2:(-1:Int)<f x:=this.1;omega
   |succ i D=>
    intro x u;have y:i+1 <l.length:=(List.getElem?_eq_some_iff.1 u).1;have v:l[i]?=some l[i]:=List.getElem?_eq_getElem (by omega);have:=h (i+1) x u;rw[Bool.and_eq_true,decide_eq_true_eq]at this;have h2:=this.1;simp only[aS,v]at h2;have:=D _ v;omega
  refine⟨fun i x u=>?_,fun x u=>?_⟩
  ·cases i with
   |zero=>rfl
   |succ i=>
    have y:i+1 <l.length:=(List.getElem?_eq_some_iff.1 u).1;have v:l[i]?=some l[i]:=List.getElem?_eq_getElem (by omega);have:=h (i+1) x u;rw[Bool.and_eq_true,decide_eq_true_eq]at this;have h2:=this.1;simp only[aS,v]at h2;rw[Nat.add_sub_cancel,v];simp[h2]
  ·obtain⟨i,z⟩:=List.mem_iff_getElem?.1 u;have:=h i x z;rw[Bool.and_eq_true]at this⊢;exact⟨decide_eq_true (h1 i x z),this.2⟩
 ·rintro⟨h1,h2⟩ i x u;have h3:=h2 x (List.mem_of_getElem? u);rw[Bool.and_eq_true,decide_eq_true_eq]at h3⊢;refine⟨?_,h3.2⟩
  cases i with
  |zero=>show(-1:Int)<f x;omega
  |succ i=>
   have y:i+1 <l.length:=(List.getElem?_eq_some_iff.1 u).1;have v:l[i]?=some l[i]:=List.getElem?_eq_getElem (by omega);have:=h1 (i+1) x u;rw[Nat.add_sub_cancel,v]at this;simp only[aS,v];simpa using this
section
variable {m:Md} {p:Pln}
def qL(m:Md)(l:List bM):Bool:=allI (fun(i:Nat) (x:bM)=>decide (aS bM.bu l i <x.bu)&&(decide (x.bu <m.cons.length)&&decide ((m.cons.getD x.bu.toNat k7).kind=0))) l
def I5(l:List bM):qL m l=sG m l:=by
 unfold qL sG;rw[vy (f:=bM.bu) (g:=fun x=>decide (x.bu <m.cons.length)&&decide ((m.cons.getD x.bu.toNat k7).kind=0))];simp only[Bool.and_assoc]
def yY(m:Md)(fit:Int->Bool)(l:List Mem):Bool:=allI (fun(i:Nat) (x:Mem)=>decide (aS Mem.act l i <x.act)&&(decide (x.act <m.ax.length)&&fit (bh m x.act))) l
def DJ(fit:Int->Bool)(l:List Mem):yY m fit l=gp m fit l:=by
 unfold yY gp b9;rw[vy (f:=Mem.act) (g:=fun x=>decide (x.act <m.ax.length)&&fit (bh m x.act))];simp only[Bool.and_assoc]
def oB(a b:Lck):Bool:=decide (a.a <b.a)||(decide (a.a=b.a)&&decide (a.b <b.b))
def Dw(hm:m.ops.length<=8){a b:Lck}(ha:iQ m a)(hb:iQ m b):oB a b=decide (jI a <jI b):=by
 have:=ha.a0;have:=ha.ab;have:=ha.b;have:=hb.a0;have:=hb.ab;have:=hb.b;unfold oB jI;rw[Bool.eq_iff_iff];simp only[Bool.or_eq_true,Bool.and_eq_true,decide_eq_true_eq];omega
def Eh(h:b6 m=true):m.ops.length<=8:=by
 unfold b6 nP at h;simp only[Bool.and_eq_true,decide_eq_true_eq]at h;exact h.2.2.1.1.2.1
def yR(m:Md)(l:List Lck):Bool:=allI (fun i L=>dh m L&&(decide (i=0)||match l[i - 1]? with|some y=>oB y L|none=>false)) l
def Ln(hm:m.ops.length<=8)(l:List Lck):yR m l=(l.all (dh m)&&ci jI l):=by
 unfold yR ci;rw[Bool.eq_iff_iff,Bool.and_eq_true,eU,eU,List.all_eq_true];constructor
 ·intro h
  have h1:∀L∈l,dh m L=true:=fun L u=>by
   obtain⟨i,z⟩:=List.mem_iff_getElem?.1 u;have:=h i L z;rw[Bool.and_eq_true]at this;exact this.1
  refine⟨h1,fun i L u=>?_⟩;have:=h i L u;rw[Bool.and_eq_true]at this;have h2:=this.2
  cases v:l[i - 1]? with
  |none=>rw[v]at h2;exact h2
  |some y=>
   rw[v]at h2;show(decide (i=0)||decide (jI y <jI L))=true
   rw[<- Dw hm (lE.1 (h1 y (List.mem_of_getElem? v))) (lE.1 (h1 L (List.mem_of_getElem? u)))];exact h2
 ·rintro⟨h1,h2⟩ i L u;rw[Bool.and_eq_true];refine⟨h1 L (List.mem_of_getElem? u),?_⟩;have h3:=h2 i L u
  cases v:l[i - 1]? with
  |none=>rw[v]at h3;exact h3
  |some y=>
   rw[v]at h3;show(decide (i=0)||oB y L)=true
   rw[Dw hm (lE.1 (h1 y (List.mem_of_getElem? v))) (lE.1 (h1 L (List.mem_of_getElem? u)))];exact h3
def pU(m:Md)(p:Pln)(o:Int):Bool:=!m.ax.zipIdx.any fun a=>decide (a.1.op=o)&&h_ p (a.2:Int)
def LX(hp:∀x∈p.places,b9 m x.act=true)(o:Int):pU m p o=!p.places.any fun x=>decide (bh m x.act=o):=by
 unfold pU;congr 1;rw[Bool.eq_iff_iff,List.any_eq_true,List.any_eq_true];constructor
 ·rintro⟨⟨a,k⟩,u,y⟩;rw[Bool.and_eq_true,decide_eq_true_eq]at y;obtain⟨x,v,z⟩:=zx.1 y.2;have z:x.act=(k:Int):=z;have u:=List.mem_zipIdx_iff_getElem?.1 u;refine⟨x,v,decide_eq_true ?_⟩;unfold bh;rw[z,show((k:Int)).toNat=k by omega,List.getD_eq_getElem?_getD];have u:m.ax[k]?=some a:=u;rw[u];exact y.1
 ·rintro⟨x,v,D⟩;have h1:=qp (hp x v);have h2:=jB.1 (hp x v);refine⟨(_,x.act.toNat),List.mem_zipIdx_iff_getElem?.2 h1,?_⟩;rw[Bool.and_eq_true];refine⟨D,zx.2 ⟨x,v,?_⟩⟩;show x.act=((x.act.toNat:Nat):Int)
  omega
def rm(m:Md)(p:Pln):Bool:=allI (fun(i:Nat) (o:Int)=>decide (aS id p.bj i <o)&&((decide (o <m.ops.length)&&(dZ m o).ord)&&pU m p o)) p.bj
def LY(hp:∀x∈p.places,b9 m x.act=true):rm m p=vK m p:=by
 unfold rm vK eP;have:=vy (f:=(id:Int->Int)) (g:=fun o=>(decide (o <m.ops.length)&&(dZ m o).ord)&&pU m p o) (l:=p.bj);simp only[id]at this⊢;rw[this];simp only[LX hp,Bool.and_assoc]
def zy(m:Md)(p:Pln):Bool:=(b6 m&&decide (p.aA.length<=64))&&(qL m p.aM&&(yR m p.aA&&(yY m (eP m) p.places&&rm m p)))
def MF:zy m p=cy m p:=by
 unfold zy cy;rw[I5,DJ]
 cases y:b6 m with
 |false=>rfl
 |true=>
  rw[Ln (Eh y)]
  cases v:gp m (eP m) p.places with
  |false=>simp only[Bool.false_and,Bool.and_false]
  |true=>
   have u:∀x∈p.places,b9 m x.act=true:=fun x z=>by
    unfold gp at v;rw[Bool.and_eq_true]at v;have:=List.all_eq_true.1 v.2 x z;rw[Bool.and_eq_true]at this;exact this.1
   rw[LY u];cases decide (p.aA.length<=64)<;>cases sG m p.aM <;>cases p.aA.all (dh m)<;>cases ci jI p.aA <;>rfl
end
def lh(m:Md)(l:List (Int×Int))(i:Nat)(c:Cn):Bool:=
 (decide (0<=c.j_)&&decide (c.j_ <m.bH.length))&&((if c.kind=0 then decide (c.first=0)&&(decide (c.size=0)&&cI l.length c.row)else decide (c.kind=1)&&jA m c)&&
  (match l[i/2]? with|some r=>decide (c.kind=0)&&decide (c.row=if i %2=0 then nF (i/2) r else pZ (i/2) r)|none=>true))
def qF(m:Md)(l:List (Int×Int)):Bool:=(decide (m.cons.length<=512)&&decide (2*l.length<=m.cons.length))&&allI (lh m l) m.cons
def vd{α:Type}{l:List α}{i:Nat}{x z:α}(h:l[i]?=some x):l.getD i z=x:=by rw[List.getD_eq_getElem?_getD,h];rfl
def Ir(m:Md)(l:List (Int×Int)):qF m l=li m l:=by
 unfold qF li;rw[Bool.and_comm (decide (m.cons.length<=512))];by_cases I:2*l.length<=m.cons.length
 ·by_cases J:m.cons.length<=512
  ·simp only[I,J,decide_true,Bool.true_and];rw[Bool.eq_iff_iff,Bool.and_eq_true,eU,eU,eU];constructor
   ·intro h;refine⟨fun i r y=>?_,fun i c u=>?_⟩
    ·have Z:i <l.length:=(List.getElem?_eq_some_iff.1 y).1;obtain⟨c,u⟩:∃c,m.cons[2*i]?=some c:=⟨_,List.getElem?_eq_getElem (by omega)⟩;obtain⟨d,hd⟩:∃d,m.cons[2*i+1]?=some d:=⟨_,List.getElem?_eq_getElem (by omega)⟩;have h1:=h _ c u;have h2:=h _ d hd;unfold lh at h1 h2;rw[show 2*i/2=i by omega,show 2*i %2=0 by omega,y]at h1;rw[show(2*i+1) /2=i by omega,show(2*i+1) %2=1 by omega,y]at h2;simp only[Bool.and_eq_true,decide_eq_true_eq,if_true]at h1 h2;unfold mD;rw[vd u,vd hd,h1.2.2.2,h2.2.2.2];simp
    ·have h1:=h i c u;unfold lh at h1;unfold jq;rw[Bool.and_eq_true]at h1⊢;refine⟨h1.1,?_⟩;have h2:=h1.2;rw[Bool.and_eq_true]at h2;by_cases v:c.kind=0
     ·rw[if_pos v]at h2;rw[h2.1,v];simp
     ·rw[if_neg v]at h2
      have:2*l.length<=i:=by
       rcases Nat.lt_or_ge i (2*l.length)with ab|D
       ·have U:=h2.2;rw[List.getElem?_eq_getElem (show i/2 <l.length by omega)]at U;simp[v]at U
       ·exact D
      simp only[this,decide_true,Bool.true_and,h2.1,Bool.or_true]
   ·rintro⟨hp,ho⟩ i c u;have h1:=ho i c u;unfold jq at h1;unfold lh;rw[Bool.and_eq_true]at h1⊢;refine⟨h1.1,?_⟩;have h2:=h1.2;simp only[Bool.or_eq_true,Bool.and_eq_true,decide_eq_true_eq]at h2;rw[Bool.and_eq_true];constructor
    ·rcases h2 with⟨h3,h4⟩|⟨h3,h4,V⟩
     ·rw[if_pos h3];simp only[Bool.and_eq_true,decide_eq_true_eq];exact h4
     ·rw[if_neg (by omega),V,h4];rfl
    ·cases y:l[i/2]? with
     |none=>rfl
     |some r=>
      have Z:i/2 <l.length:=(List.getElem?_eq_some_iff.1 y).1;have z:=hp _ r y;unfold mD at z;rw[Bool.and_eq_true,decide_eq_true_eq,decide_eq_true_eq]at z
      have v:c.kind=0:=by
       rcases h2 with⟨h3,_⟩|⟨h3,_⟩
       ·exact h3
       ·omega
      simp only[v,decide_true,Bool.true_and,decide_eq_true_eq];by_cases G:i %2=0
      ·rw[if_pos G,<- z.1,show 2*(i/2)=i by omega,vd u]
      ·rw[if_neg G,<- z.2,show 2*(i/2)+1=i by omega,vd u]
  ·simp only[J,decide_false,Bool.and_false,Bool.false_and]
 ·simp only[I,decide_false,Bool.false_and]
def cmpL:List Int->List Int->Int
 |x::a,y::b=>if x <y then -1 else if y <x then 1 else cmpL a b
 |[],[]=>0
 |[],_::_=> -1
 |_::_,[]=>1
theorem BP:∀(a b:List Int),decide (cmpL a b <0)=iD a b
 |[],[]=>rfl
 |[],_::_=>rfl
 |_::_,[]=>rfl
 |x::a,y::b=>by
  unfold cmpL iD;by_cases h1:x <y
  ·rw[if_pos h1,if_neg (by omega)];simp[h1]
  ·rw[if_neg h1];by_cases h2:y <x
   ·rw[if_pos h2,if_neg (by omega)];simp[h1]
   ·rw[if_neg h2,if_pos (by omega)];exact BP a b
def iz(u v:List Int):Bool:=decide (v.length<=3)&&v.all (cr u)
def rF(t:Tb):Bool:=if t.kind=1\/t.kind=4\/t.kind=5 then decide (t.lo<=t.hi)&&(decide (-9999<=t.lo)&&decide (t.hi<=9999))else decide (t.lo=0)&&decide (t.hi=1)
def lX(v:List Int)(l:List Tb)(i:Nat)(t:Tb):Bool:=
 (gq t.name&&(!((l.take i).any fun u=>decide (u.name=t.name))&&((decide (0<=t.kind)&&decide (t.kind<=5))&&(iz v t.au&&rF t))))&&decide (t.first=bF v (bz t.kind) (l.take i))
def zn{u v:List Int}(hs:ck u=true)(hc:iz u v=true):bE u v=dx u v:=by
 unfold iz at hc;unfold bE;rw[Bool.and_eq_true]at hc;rw[if_pos (by rw[hs,hc.1,hc.2];rfl)]
def Mb{u y:List Int}(hs:ck u=true):(!decide (bE u y=0))=iz u y:=by
 cases v:iz u y with
 |true=>
  rw[zn hs v];unfold iz at v;rw[Bool.and_eq_true,decide_eq_true_eq]at v;have:=(nC hs v.2 (by omega)).1;simp;omega
 |false=>
  unfold bE;unfold iz at v;rw[if_neg]
  ·rfl
  ·rw[Bool.and_eq_true,Bool.and_eq_true];rintro⟨⟨h1,_⟩,h2⟩;rw[h1,h2]at v;cases v
def NG{t:Tb}(h0:0<=t.kind)(u:t.kind<=5):rF t=rG t:=by
 have:t.kind=0\/t.kind=1\/t.kind=2\/t.kind=3\/t.kind=4\/t.kind=5:=by omega
 unfold rF rG;rw[Bool.eq_iff_iff];rcases this with e|e|e|e|e|e <;>rw[e]<;>simp <;>omega
def PM{v:List Int}{l:List Tb}{i:Nat}{t:Tb}(hs:ck v=true):lX v l i t=io v l i t:=by
 unfold lX io;rw[Mb hs];by_cases y:0<=t.kind/\t.kind<=5
 ·rw[NG y.1 y.2];cases gq t.name <;>cases(!(l.take i).any fun u=>decide (u.name=t.name))<;>cases(decide (0<=t.kind)&&decide (t.kind<=5))<;>cases iz v t.au <;>cases rG t <;>cases decide (t.first=bF v (bz t.kind) (l.take i))<;>rfl
 ·have:(decide (0<=t.kind)&&decide (t.kind<=5))=false:=by
   rw[<- Bool.not_eq_true,Bool.and_eq_true,decide_eq_true_eq,decide_eq_true_eq];exact y
  rw[this];cases gq t.name <;>cases(!(l.take i).any fun u=>decide (u.name=t.name))<;>rfl
def ux{α:Type}{p q:Nat->α->Bool}{l:List α}(h:∀i x,p i x=q i x):allI p l=allI q l:=by
 have:p=q:=funext fun i=>funext fun x=>h i x;rw[this]
def te(u:List Int)(l:List Tb):Bool:=(decide (u.length<=4)&&(decide (l.length<=12)&&ck u))&&(allI (lX u l) l&&(decide (bF u true l<=128)&&decide (bF u false l<=64)))
def vz(u:List Int)(l:List Tb):te u l=bJ u l:=by
 unfold te bJ
 cases hs:ck u with
 |true=>
  rw[ux (p:=lX u l) (q:=io u l) fun i x=>PM hs];cases decide (u.length<=4)<;>cases decide (l.length<=12)<;>rfl
 |false=>cases decide (u.length<=4)<;>cases decide (l.length<=12)<;>rfl
def BR{u:List Int}{l:List Tb}{q:Nat}{t:Tb}{s:Bool}(hs:ck u=true)(hc:iz u t.au=true)(h:l[q]?=some t):bF u s (l.take (q+1))=if bz t.kind=s then bF u s (l.take q)+dx u t.au else bF u s (l.take q):=by
 rw[uI s h,zn hs hc]
def rk(m:Md):Bool:=(te m.ao m.tables&&(decide (m.bH.length<=24)&&gH m.bH))&&
 (qF m (bW m.ao m.tables true)&&(((decide ((m.ops.map (·.name)).length<=8)&&gH (m.ops.map (·.name)))&&m.ops.all (dT m))&&((decide (m.ax.length<=256)&&allI (dk m (bW m.ao m.tables true).length) m.ax)&&gh m)))
def LQ(m:Md):rk m=b6 m:=by
 unfold rk b6 nP;rw[vz,Ir,List.length_map];cases bJ m.ao m.tables <;>cases decide (m.bH.length<=24)<;>cases gH m.bH <;>cases li m (bW m.ao m.tables true)<;>cases m.ops.all (dT m)<;>cases decide (m.ops.length<=8)<;>cases gH (m.ops.map (·.name))<;>cases decide (m.ax.length<=256)<;>rfl
def zz{α:Type}{f:α->Int}{z:α}{g:α->Bool}{l:List α}:allI (fun i x=>(decide (0<=f x)&&(decide (i=0)||decide (f (l.getD (i - 1) z)<f x)))&&g x) l=allI (fun i x=>decide (aS f l i <f x)&&g x) l:=by
 rw[vy];rw[Bool.eq_iff_iff,Bool.and_eq_true,eU];unfold ci;rw[eU,List.all_eq_true]
 have v:∀(i:Nat) (x:α),l[i]?=some x->(decide (i=0)||decide (f (l.getD (i - 1) z)<f x))=(decide (i=0)||match l[i - 1]? with|some y=>decide (f y <f x)|none=>false):=by
  intro i x u
  cases i with
  |zero=>rfl
  |succ i=>
   have G:i+1 <l.length:=(List.getElem?_eq_some_iff.1 u).1;have I:l[i]?=some l[i]:=List.getElem?_eq_getElem (by omega);rw[Nat.add_sub_cancel,List.getD_eq_getElem?_getD,I];rfl
 constructor
 ·intro h;refine⟨fun i x u=>?_,fun x u=>?_⟩
  ·have h1:=h i x u;simp only[Bool.and_eq_true]at h1;have h2:=v i x u;show(decide (i=0)||match l[i - 1]? with|some y=>decide (f y <f x)|none=>false)=true
   rw[<- h2];exact h1.1.2
  ·obtain⟨i,D⟩:=List.mem_iff_getElem?.1 u;have h1:=h i x D;simp only[Bool.and_eq_true]at h1;rw[Bool.and_eq_true];exact⟨h1.1.1,h1.2⟩
 ·rintro⟨h1,h2⟩ i x u;have h3:=h2 x (List.mem_of_getElem? u);rw[Bool.and_eq_true]at h3;show((decide (0<=f x)&&(decide (i=0)||decide (f (l.getD (i - 1) z)<f x)))&&g x)=true
  rw[Bool.and_eq_true,Bool.and_eq_true];exact⟨⟨h3.1,by rw[v i x u];exact h1 i x u⟩,h3.2⟩
def oT(n:Int)(l:List Tm)(i:Nat)(t:Tm):Bool:=decide (aS Tm.cell l i <t.cell)&&(decide (t.cell <n)&&(!decide (t.bZ=0)&&cA t.bZ 1000))
def PS(n:Int)(l:List Tm):allI (oT n l) l=allI (fU n l) l:=by
 have:=zz (f:=Tm.cell) (z:=⟨0,0⟩) (g:=fun t=>decide (t.cell <n)&&(!decide (t.bZ=0)&&cA t.bZ 1000)) (l:=l);show allI (fun i t=>decide (aS Tm.cell l i <t.cell)&&(decide (t.cell <n)&&(!decide (t.bZ=0)&&cA t.bZ 1000))) l=_
 rw[<- this];refine ux fun i t=>?_;unfold fU;cases decide (0<=t.cell)<;>cases decide (t.cell <n)<;>cases(decide (i=0)||decide ((l.getD (i - 1) ⟨0,0⟩).cell <t.cell))<;>rfl
def mY(n:Int)(l:List bP)(i:Nat)(t:bP):Bool:=decide (aS bP.cell l i <t.cell)&&(decide (t.cell <n)&&(!decide (t.add=0)&&cA t.add 1000000000))
def H0(n:Int)(l:List bP):allI (mY n l) l=allI (eX n l) l:=by
 have:=zz (f:=bP.cell) (z:=⟨0,0⟩) (g:=fun t=>decide (t.cell <n)&&(!decide (t.add=0)&&cA t.add 1000000000)) (l:=l);show allI (fun i t=>decide (aS bP.cell l i <t.cell)&&(decide (t.cell <n)&&(!decide (t.add=0)&&cA t.add 1000000000))) l=_
 rw[<- this];refine ux fun i t=>?_;unfold eX;cases decide (0<=t.cell)<;>cases decide (t.cell <n)<;>cases(decide (i=0)||decide ((l.getD (i - 1) ⟨0,0⟩).cell <t.cell))<;>rfl
def oX(m:Md)(u:cw):Bool:=match fe m.ao m.tables false u.cell with
 |some (_,t)=>nJ u t
 |none=>false
theorem yn{f:Tb->Bool}:∀{i:Nat} {l:List Tb} {r:Nat×Tb},fK f i l=some r->f r.2=true
 |_,[],_,h=>by cases h
 |i,t::l,r,h=>by
  unfold fK at h;split at h
  ·cases h;assumption
  ·exact yn h
def PN{S:List Int}{L:List Tb}{s:Bool}{c:Int}{r:Nat×Tb}(h:fe S L s c=some r):0<=c:=by
 unfold fe at h;split at h
 ·have:=yn h;unfold eO at this;simp only[Bool.and_eq_true,decide_eq_true_eq]at this;exact this.2.1
 ·cases h
def nI(m:Md)(l:List cw)(i:Nat)(u:cw):Bool:=decide (aS cw.cell l i <u.cell)&&oX m u
def Qj(m:Md)(l:List cw):allI (nI m l) l=allI (gQ m l) l:=by
 have:=zz (f:=cw.cell) (z:=⟨0,0,0⟩) (g:=oX m) (l:=l);show allI (fun i u=>decide (aS cw.cell l i <u.cell)&&oX m u) l=_
 rw[<- this];refine ux fun i u=>?_;unfold gQ oX
 cases h:fe m.ao m.tables false u.cell with
 |none=>simp only[Bool.and_false]
 |some r=>
  have v:=PN h;rw[decide_eq_true v,Bool.true_and]
def xT(m:Md)(n:Int)(x:k8):Bool:=allI (mY n x.delta) x.delta&&(allI (nI m x.b7) x.b7&&(decide (x.hold.length<=8)&&(decide (x.b7.length<=32)&&x.hold.all (cI n))))
def IV(m:Md)(n:Int)(x:k8):xT m n x=ll m n x:=by
 unfold xT ll;rw[H0,Qj];cases allI (eX n x.delta) x.delta <;>cases allI (gQ m x.b7) x.b7 <;>cases decide (x.hold.length<=8)<;>cases decide (x.b7.length<=32)<;>cases x.hold.all (cI n)<;>rfl
end Go.Proofs.YtcgdbhlnkificaaGreatDoor
