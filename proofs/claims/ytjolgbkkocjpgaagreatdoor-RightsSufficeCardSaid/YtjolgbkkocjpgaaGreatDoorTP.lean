/- Tokens as the code reads them: the first token of a. No condition. -/
import Derived.Test.YtjolgbkkocjpgaaGreatDoorTS
set_option linter.all false
namespace Go.Proofs.YtjolgbkkocjpgaaGreatDoor
def dQ(b:UInt8):Bool:=!decide (b.toNat=10)
theorem GM:∀(l:List UInt8),aZ true l=aQ dQ l+aZ false (l.drop (aQ dQ l))
 |[]=>rfl
 |b::r=>by
  by_cases h:b.toNat=10
  ·have u:aZ true (b::r)=aZ false r+1:=by rw[aZ,if_pos h]
   have v:aQ dQ (b::r)=0:=by unfold aQ;rw[if_neg (by simp[dQ,h])]
   have y:aZ false (b::r)=aZ false r+1:=by rw[aZ,if_pos (by simp[dI,h])]
   rw[u,v,List.drop_zero,y];omega
  ·have u:aZ true (b::r)=aZ true r+1:=by rw[aZ,if_neg h]
   have v:aQ dQ (b::r)=aQ dQ r+1:=by rw[aQ,if_pos (by simp[dQ,h])]
   rw[u,v,List.drop_succ_cons,GM r];omega
def QB{b:UInt8}{r:List UInt8}(h1:dI b=false)(h:b.toNat=35):aZ false (b::r)=aQ dQ (b::r)+aZ false ((b::r).drop (aQ dQ (b::r))):=by
 have u:aZ false (b::r)=aZ true r+1:=by rw[aZ,if_neg (by simp[h1]),if_pos h]
 have v:aQ dQ (b::r)=aQ dQ r+1:=by rw[aQ,if_pos (by simp[dQ,h])]
 rw[u,v,List.drop_succ_cons,GM r];omega
def l8:List (List UInt8):=[[61,61],[33,61],[60,61],[62,61],[46,46]]
def l7:List UInt8:=[60,62,61,43,45,42,40,41,123,125,44,58,59]
def fz(s t:List UInt8):Bool:=decide (s.length<=t.length)&&decide (t.take s.length=s)
def fQ(t:List UInt8):Nat:=if l8.any (fun s=>fz s t)=true then 2 else match t with
 |[]=>0
 |b::_=>if b∈l7 then 1 else 0
theorem He:∀(S:List (List UInt8)) (T:List (List UInt8)) (t:List UInt8),(∀s∈S,s.length=2)->fk (S++T) t=if S.any (fun s=>fz s t)=true then 2 else fk T t
 |[],T,t,_=>by simp
 |s::S,T,t,h=>by
  rw[List.cons_append,fk,He S T t fun x v=>h x (by simp[v]),List.any_cons];have hs:=h s (by simp);by_cases u:s.length<=t.length/\t.take s.length=s
  ·rw[if_pos u];have:fz s t=true:=by unfold fz;simp[u]
   rw[this,Bool.true_or,if_pos rfl,hs]
  ·rw[if_neg u]
   have:fz s t=false:=by
    unfold fz;rw[<- Bool.not_eq_true,Bool.and_eq_true,decide_eq_true_eq,decide_eq_true_eq];exact u
   rw[this,Bool.false_or]
theorem Hd:∀(S:List UInt8) (b:UInt8) (r:List UInt8),fk (S.map fun c=>[c]) (b::r)=if b∈S then 1 else 0
 |[],b,r=>by simp[fk]
 |c::S,b,r=>by
  rw[List.map_cons,fk,Hd S b r];by_cases h:b=c
  ·rw[if_pos ⟨by simp,by simp[h]⟩,if_pos (by simp[h])];rfl
  ·rw[if_neg (by rintro⟨_,h2⟩;simp at h2;exact h h2)];simp only[List.mem_cons,h,false_or]
theorem Hc:∀(S:List UInt8),fk (S.map fun c=>[c]) []=0
 |[]=>rfl
 |c::S=>by rw[List.map_cons,fk,if_neg (by simp),Hc S]
def Hf(t:List UInt8):fQ t=iy t:=by
 have e:qF=l8++l7.map fun c=>[c]:=by decide
 unfold iy fQ;rw[e,He _ _ _ (by decide)]
 cases t with
 |nil=>simp only[Hc]
 |cons b r=>simp only[Hd]
def pH(b:UInt8)(r:List UInt8):Bool:=eO b ||(b_ b ||decide (0 <fQ (b::r)))
def mh:List UInt8->Nat
 |[]=>0
 |b::r=>if(!dI b&&(!decide (b.toNat=35)&&!pH b r))=true then mh r+1 else 0
def gJ:List UInt8->Int×Nat
 |[]=>(0,0)
 |b::r=>
  if eO b=true then(if(b::r).take (aQ cj (b::r))∈cZ then 2 else 1,aQ cj (b::r))
  else if b_ b=true then(3,aQ b_ (b::r))
  else if 0 <fQ (b::r)then(4,fQ (b::r))
  else(5,1+mh r)
def oK(l:List UInt8):Int:=if l.length=0\/4096 <l.length then 0 else
 if aZ false l=0/\aZ false l+(gJ (l.drop (aZ false l))).2=l.length then(gJ (l.drop (aZ false l))).1 else 0
theorem HH:∀(l:List UInt8),mh l=eX l
 |[]=>rfl
 |b::r=>by
  rw[mh,eX,HH r,<- Hf]
  have:(!dI b&&(!decide (b.toNat=35)&&!pH b r))=true↔(dI b=false/\b.toNat≠35)/\(eO b=false/\b_ b=false/\fQ (b::r)=0):=by
   unfold pH;simp only[Bool.and_eq_true,Bool.not_eq_true',Bool.or_eq_false_iff,decide_eq_false_iff_not];constructor
   ·rintro⟨h1,h2,h3,h4,v⟩;exact⟨⟨h1,h2⟩,h3,h4,by omega⟩
   ·rintro⟨⟨h1,h2⟩,h3,h4,v⟩;exact⟨h1,h2,h3,h4,by omega⟩
  by_cases h:(!dI b&&(!decide (b.toNat=35)&&!pH b r))=true
  ·rw[if_pos h,if_pos (this.1 h)]
  ·rw[if_neg h,if_neg fun u=>h (this.2 u)]
def Rd{b:UInt8}{r:List UInt8}(h1:dI b=false)(h2:b.toNat≠35):gJ (b::r)=fL (b::r):=by
 rw[xZ,gJ,Hf];split
 ·rfl
 ·rename_i h3;split
  ·rfl
  ·rename_i h4;split
   ·rfl
   ·rename_i u;rw[eX,if_pos ⟨⟨h1,h2⟩,by simpa using h3,by simpa using h4,by omega⟩,HH];rw[Nat.add_comm]
def L0(l:List UInt8):oK l=oL l:=by
 unfold oK oL;by_cases h1:4096 <l.length
 ·rw[if_pos (.inr h1),if_pos h1]
 ·rw[if_neg h1];by_cases y:l.length=0
  ·have:l=[]:=List.length_eq_zero_iff.1 y;subst this;rfl
  ·rw[if_neg (by omega)];unfold qC jU;rw[Nat.zero_add,List.drop_zero];by_cases hs:aZ false l=0
   ·have v:0 <l.length:=by omega
    rw[hs];simp only[Nat.zero_add,true_and,List.drop_zero,if_pos v]
    cases l with
    |nil=>exact absurd rfl y
    |cons b r=>
     obtain⟨z,a2⟩:=GP (b::r) b r (by rw[hs];rfl);rw[Rd z a2];by_cases u:(fL (b::r)).2=(b::r).length
     ·rw[if_pos u]
      have:jU (b::r) (b::r).length (fL (b::r)).2=[⟨0,(b::r).length,(b::r).length,(b::r).length⟩]:=by
       rw[u,List.length_cons,jU,if_neg (by simp)];rfl
      rw[this];simp only[u,and_self,if_true]
     ·rw[if_neg u];split
      ·rename_i t x e;rw[List.cons.injEq]at e;rw[<- e.1];simp only[u,and_false,if_false]
      ·rfl
   ·rw[if_neg (by simp[hs])];split
    ·rename_i t x e;split at e
     ·rw[List.cons.injEq]at e;rw[<- e.1];simp only[hs,false_and,if_false]
     ·cases e
    ·rfl
structure sK where
 e:Int
 f:Int
 hold:Bool
 idx:Int
 st:List Int
structure bI where
 bz:Int
 s:sK
structure Mem where
 act:Int
 s:sK
structure Lck where
 a:Int
 b:Int
 pa:Int
 pb:Int
 mem:List Mem
structure Pln where
 ao:List bI
 aD:List Lck
 places:List Mem
 bh:List Int
def HJ:sK:=⟨0,0,false,0,[]⟩
def yf:bI:=⟨0,HJ⟩
section
variable (m:Md)
def bg(k:Int):Int:=(m.au.getD k.toNat fv).op
def eG(o:Int):gq:=m.ops.getD o.toNat uN
def bC(k:Int):Bool:=decide (0<=k)&&decide (k <m.au.length)
def cq{α:Type}(f:α->Int)(l:List α):Bool:=allI (fun i x=>decide (i=0)||match l[i - 1]? with|some y=>decide (f y <f x)|none=>false) l
def gD(fit:Int->Bool)(l:List Mem):Bool:=cq Mem.act l&&l.all fun x=>bC m x.act&&fit (bg m x.act)
def gW(o k:Int):Int:=if 0<=k/\k <(eG m o).ai.length then(eG m o).ai.getD k.toNat 0 else -1
def jQ(L:Lck):Bool:=(decide (L.pa= -1)&&decide (L.pb= -1))||(decide (0<=gW m L.a L.pa)&&(decide (gW m L.a L.pa=gW m L.b L.pb)&&(!decide (L.a=L.b)||decide (L.pa=L.pb))))
def dq(L:Lck):Bool:=(decide (0<=L.a)&&(decide (L.a<=L.b)&&decide (L.b <m.ops.length)))&&(jQ m L&&gD m (fun o=>decide (o=L.a)||decide (o=L.b)) L.mem)
def tf(l:List bI):Bool:=cq bI.bz l&&l.all fun x=>(decide (0<=x.bz)&&decide (x.bz <m.cons.length))&&decide ((m.cons.getD x.bz.toNat lg).kind=0)
def fg(o:Int):Bool:=(decide (0<=o)&&decide (o <m.ops.length))&&(eG m o).ord
def jN(L:Lck):Int:=L.a*8+L.b
def wA(p:Pln):Bool:=cq id p.bh&&p.bh.all fun o=>fg m o&&!p.places.any fun x=>decide (bg m x.act=o)
def cX(p:Pln):Bool:=(b7 m&&decide (p.aD.length<=64))&&((tf m p.ao&&(p.aD.all (dq m)&&cq jN p.aD))&&(gD m (fg m) p.places&&wA m p))
def fD(L:Lck)(k:Int):Bool:=L.mem.any fun x=>decide (x.act=k)
def eH(p:Pln)(k:Int):Bool:=p.places.any fun x=>decide (x.act=k)
def jZ(L:Lck)(k:Int):Bool:=decide (bg m k=L.b)
def jz(k i:Int):Int:=(m.au.getD k.toNat fv).args.getD i.toNat 0
def jd(L:Lck)(k:Int):Int:=if L.pa <0 then 0 else if bg m k=L.a then jz m k L.pa else jz m k L.pb
def yY(L:Lck):Int:=if L.pa <0 then 1 else m.ai.getD (gW m L.a L.pa).toNat 0
def dJ(l:List bv)(c:Int):Int:=match l.find? fun d=>decide (d.cell=c)with
 |some d=>d.add
 |none=>0
def mA(l:List bv)(r:Rw):Int:=r.a8.foldl (fun n t=>n+t.bU*dJ l t.cell) 0
def dY(k:Int)(r:Rw):Int:=mA (m.au.getD k.toNat fv).eff.delta r
def rowOf(x:bI):Rw:=(m.cons.getD x.bz.toNat lg).row
structure bE where
 k:Int
 i:Int
 el:Int
 n:Int
deriving DecidableEq
def aT(k sg:Int):Nat->List bI->List bE
 |_,[]=>[]
 |i,x::l=>if 0 <sg*dY m k (rowOf m x)then⟨0,i,0,sg*dY m k (rowOf m x)⟩::aT k sg (i+1) l else aT k sg (i+1) l
def dt(k r:Int):Nat->List Lck->List bE
 |_,[]=>[]
 |i,L::l=>if fD L k=true then⟨1,i,jd m L k,if jZ m L k=true then r else 1⟩::dt k r (i+1) l else dt k r (i+1) l
def bO(p:Pln)(k r:Int):List bE:=aT m k 1 0 p.ao++dt m k r 0 p.aD
def jW(s:List Int)(r:Rw):Int:=r.a8.foldl (fun n t=>n - t.bU*s.getD t.cell.toNat 0) r.ib
def gl(p:Pln)(s:List Int):List Int:=p.ao.map fun x=>jW s (rowOf m x)
end
def uo{α:Type}{f:α->Int}{l:List α}:cq f l=true↔l.Pairwise fun y x=>f y <f x:=by
 have U:cq f l=true↔∀(i:Nat) (y x:α),l[i]?=some y->l[i+1]?=some x->f y <f x:=by
  unfold cq;rw[gu];constructor
  ·intro h i y x v u;have:=h (i+1) x u;simp only[Nat.add_sub_cancel,v]at this;simpa using this
  ·intro h k x u
   cases k with
   |zero=>simp
   |succ k=>
    have G:k+1 <l.length:=(List.getElem?_eq_some_iff.1 u).1;have v:l[k]?=some l[k]:=List.getElem?_eq_getElem (by omega);simp only[Nat.add_sub_cancel,v];have:=h k _ x v u;simpa using this
 rw[U,List.pairwise_iff_getElem];constructor
 ·intro h
  have I:∀(d i:Nat) (y x:α),l[i]?=some y->l[i+(d+1)]?=some x->f y <f x:=by
   intro d
   induction d with
   |zero=>exact fun i y x v u=>h i y x v u
   |succ d Z=>
    intro i y x v u;have G:i+(d+1+1)<l.length:=(List.getElem?_eq_some_iff.1 u).1;have J:l[i+(d+1)]?=some l[i+(d+1)]:=List.getElem?_eq_getElem (by omega);exact Int.lt_trans (Z i y _ v J) (h (i+(d+1)) _ x J u)
  intro i j z D V;exact I (j - i - 1) i _ _ (List.getElem?_eq_getElem z) (by rw[show i+(j - i - 1+1)=j by omega];exact List.getElem?_eq_getElem D)
 ·intro h i y x v u;obtain⟨z,rfl⟩:=List.getElem?_eq_some_iff.1 v;obtain⟨D,rfl⟩:=List.getElem?_eq_some_iff.1 u;exact h i (i+1) z D (by omega)
def AP{α:Type}{f:α->Int}{l u:List α}(hs:u.Sublist l)(h:cq f l=true):cq f u=true:=uo.2 ((uo.1 h).sublist hs)
def H7{α:Type}{f:α->Bool}{l u:List α}(hs:u.Sublist l)(h:u.any f=true):l.any f=true:=by
 obtain⟨x,y,v⟩:=List.any_eq_true.1 h;exact List.any_eq_true.2 ⟨x,hs.subset y,v⟩
section
variable {m:Md} {p:Pln} {e f k R:Int} {L:Lck}
structure ll (m:Md) (p:Pln):Prop where
 kV:b7 m=true
 eN:p.aD.length<=64
 ri:cq bI.bz p.ao=true
 ao:∀x∈p.ao,(0<=x.bz/\x.bz <m.cons.length)/\(m.cons.getD x.bz.toNat lg).kind=0
 lock:∀L∈p.aD,dq m L=true
 Ec:cq jN p.aD=true
 Fl:cq Mem.act p.places=true
 place:∀x∈p.places,bC m x.act=true/\fg m (bg m x.act)=true
 rQ:cq id p.bh=true
 bh:∀o∈p.bh,fg m o=true/\∀x∈p.places,bg m x.act≠o
def jR:cX m p=true↔ll m p:=by
 unfold cX tf gD wA;simp only[Bool.and_eq_true,decide_eq_true_eq,List.all_eq_true,Bool.not_eq_true',<- Bool.not_eq_true,List.any_eq_true,not_exists,not_and];constructor
 ·rintro⟨⟨h1,h2⟩,⟨⟨h3,h4⟩,v,y⟩,⟨z,D⟩,G,u⟩;exact⟨h1,h2,h3,h4,v,y,z,D,G,u⟩
 ·rintro⟨h1,h2,h3,h4,v,y,z,D,G,u⟩;exact⟨⟨h1,h2⟩,⟨⟨h3,h4⟩,v,y⟩,⟨z,D⟩,G,u⟩
structure iY (m:Md) (L:Lck):Prop where
 a0:0<=L.a
 ab:L.a<=L.b
 b:L.b <m.ops.length
 NO:jQ m L=true
 MZ:cq Mem.act L.mem=true
 mem:∀x∈L.mem,bC m x.act=true/\(bg m x.act=L.a\/bg m x.act=L.b)
def mM:dq m L=true↔iY m L:=by
 unfold dq gD;simp only[Bool.and_eq_true,decide_eq_true_eq,List.all_eq_true,Bool.or_eq_true];constructor
 ·rintro⟨⟨h1,h2,h3⟩,h4,u,v⟩;exact⟨h1,h2,h3,h4,u,v⟩
 ·rintro⟨h1,h2,h3,h4,u,v⟩;exact⟨⟨h1,h2,h3⟩,h4,u,v⟩
def NP:fD L k=true↔∃x∈L.mem,x.act=k:=by
 unfold fD;simp only[List.any_eq_true,decide_eq_true_eq]
def As:eH p k=true↔∃x∈p.places,x.act=k:=by
 unfold eH;simp only[List.any_eq_true,decide_eq_true_eq]
def iY.part(h:iY m L)(hp:fD L k=true):bC m k=true/\(bg m k=L.a\/bg m k=L.b):=by
 obtain⟨x,u,rfl⟩:=NP.1 hp;exact h.mem x u
def ll.NX(h:ll m p)(hp:eH p k=true):bC m k=true/\fg m (bg m k)=true:=by
 obtain⟨x,u,rfl⟩:=As.1 hp;exact h.place x u
def iY.write(h:iY m L)(hp:fD L k=true):(decide (L.a=L.b)||decide (bg m k=L.b))=jZ m L k:=by
 have:=(h.part hp).2;unfold jZ;by_cases h1:L.a=L.b
 ·have:bg m k=L.b:=by omega
  simp[this]
 ·simp[h1]
def iY.wO(h:iY m L):(L.pa= -1/\L.pb= -1)\/((0<=L.pa/\L.pa <(eG m L.a).ai.length)/\(0<=L.pb/\L.pb <(eG m L.b).ai.length)/\(eG m L.a).ai.getD L.pa.toNat 0=(eG m L.b).ai.getD L.pb.toNat 0/\0<=(eG m L.a).ai.getD L.pa.toNat 0/\gW m L.a L.pa=(eG m L.a).ai.getD L.pa.toNat 0):=by
 have u:=h.NO;unfold jQ at u;simp only[Bool.or_eq_true,Bool.and_eq_true,decide_eq_true_eq]at u;rcases u with u|⟨h1,h2,_⟩
 ·exact .inl u
 ·right
  unfold gW at h1 h2⊢;split at h1
  ·rename_i v;rw[if_pos v]at h2⊢;split at h2
   ·rename_i y;exact⟨v,y,h2,h1,rfl⟩
   ·omega
  ·omega
def iY.elem(h:iY m L):jd m L k=(if(if bg m k=L.a then L.pa else L.pb)<0 then 0 else jz m k (if bg m k=L.a then L.pa else L.pb)):=by
 unfold jd;rcases h.wO with⟨h1,h2⟩|⟨⟨h1,_⟩,⟨h2,_⟩,_⟩
 ·rw[h1,h2];simp
 ·have v:¬L.pa <0:=by omega
  have y:¬L.pb <0:=by omega
  by_cases u:bg m k=L.a
  ·simp only[u,if_true,v,if_false]
  ·simp only[u,if_false,v,y]
def uY(h:b7 m=true){a:dU}{i:Nat}(ha:m.au[i]?=some a):dA m (bH m.ai m.tables true).length i a=true:=by
 unfold b7 pB at h;simp only[Bool.and_eq_true]at h;exact gu.1 h.2.2.1.2 i a ha
def eC:bC m k=true↔0<=k/\k <m.au.length:=by
 unfold bC;simp only[Bool.and_eq_true,decide_eq_true_eq]
def getD_some{α:Type}{l:List α}{i:Nat}{z:α}(h:i <l.length):l[i]?=some (l.getD i z):=by
 rw[List.getD_eq_getElem?_getD,List.getElem?_eq_getElem h];rfl
def pA(h:bC m k=true):m.au[k.toNat]?=some (m.au.getD k.toNat fv):=getD_some (by have:=eC.1 h;omega)
def B5(h:b7 m=true)(hk:bC m k=true){i:Int}(hi:0<=i)(hl:i <(eG m (bg m k)).ai.length)(hs:0<=(eG m (bg m k)).ai.getD i.toNat 0):0<=jz m k i/\jz m k i <m.ai.getD ((eG m (bg m k)).ai.getD i.toNat 0).toNat 0:=by
 have v:=uY h (pA hk);unfold dA at v;simp only[Bool.and_eq_true,decide_eq_true_eq]at v;have y:=v.1.1.2
 have u:=gu.1 v.1.2 i.toNat (jz m k i) (by
  unfold jz;exact getD_some (by unfold eG bg at hl;omega))
 unfold j9 at u;have e:(m.ops.getD (m.au.getD k.toNat fv).op.toNat uN).ai.getD i.toNat 0=(eG m (bg m k)).ai.getD i.toNat 0:=rfl;rw[e,if_neg (by omega)]at u;simpa using u
def J5(h:b7 m=true)(z:iY m L)(hp:fD L k=true):0<=jd m L k/\jd m L k <yY m L:=by
 obtain⟨D,I⟩:=z.part hp;unfold jd yY;rcases z.wO with⟨h1,h2⟩|⟨⟨h1,u⟩,⟨h2,v⟩,h3,h4,G⟩
 ·have y:L.pa <0:=by omega
  simp only[y,if_true];omega
 ·have y:¬L.pa <0:=by omega
  simp only[y,if_false];rw[G];split
  ·rename_i e;have:=B5 h D h1 (by rw[e];exact u) (by rw[e];exact h4);rw[e]at this;exact this
  ·rename_i e;have e:bg m k=L.b:=by omega
   have:=B5 h D h2 (by rw[e];exact v) (by rw[e,<- h3];exact h4);rw[e,<- h3]at this;exact this
theorem Ep:∀{l:List Lck} {i:Nat} {x:bE},x∈dt m k R i l↔∃(j:Nat) (L:Lck),l[j]?=some L/\fD L k=true/\x=⟨1,((i+j:Nat):Int),jd m L k,if jZ m L k=true then R else 1⟩
 |[],i,x=>by simp[dt]
 |L::l,i,x=>by
  have e:x∈dt m k R i (L::l)↔(fD L k=true/\x=⟨1,(i:Int),jd m L k,if jZ m L k=true then R else 1⟩)\/x∈dt m k R (i+1) l:=by
   rw[dt];split <;>simp[*]
  rw[e,Ep (l:=l) (i:=i+1)];constructor
  ·rintro(⟨h1,h2⟩|⟨j,M,h1,h2,h3⟩)
   ·exact⟨0,L,rfl,h1,h2⟩
   ·exact⟨j+1,M,by simpa using h1,h2,by rw[h3,show i+1+j=i+(j+1) by omega]⟩
  ·rintro⟨j,M,h1,h2,h3⟩
   cases j with
   |zero=>cases h1;exact .inl ⟨h2,h3⟩
   |succ j=>exact .inr ⟨j,M,by simpa using h1,h2,by rw[h3,show i+1+j=i+(j+1) by omega]⟩
theorem zY{s:Int}:∀{l:List bI} {i:Nat} {x:bE},x∈aT m k s i l↔∃(j:Nat) (y:bI),l[j]?=some y/\0 <s*dY m k (rowOf m y)/\x=⟨0,((i+j:Nat):Int),0,s*dY m k (rowOf m y)⟩
 |[],i,x=>by simp[aT]
 |y::l,i,x=>by
  have e:x∈aT m k s i (y::l)↔(0 <s*dY m k (rowOf m y)/\x=⟨0,(i:Int),0,s*dY m k (rowOf m y)⟩)\/x∈aT m k s (i+1) l:=by
   rw[aT];split <;>simp[*]
  rw[e,zY (l:=l) (i:=i+1)];constructor
  ·rintro(⟨h1,h2⟩|⟨j,z,h1,h2,h3⟩)
   ·exact⟨0,y,rfl,h1,h2⟩
   ·exact⟨j+1,z,by simpa using h1,h2,by rw[h3,show i+1+j=i+(j+1) by omega]⟩
  ·rintro⟨j,z,h1,h2,h3⟩
   cases j with
   |zero=>cases h1;exact .inl ⟨h2,h3⟩
   |succ j=>exact .inr ⟨j,z,by simpa using h1,h2,by rw[h3,show i+1+j=i+(j+1) by omega]⟩
def ll.GD(h:ll m p)(D:2<=R){x:bE}(hx:x∈bO m p e R)(hk:x.k=1):∃(j:Nat) (L:Lck),p.aD[j]?=some L/\x.i=(j:Int)/\fD L e=true/\jZ m L e=decide (x.n=R)/\x.el=jd m L e/\0<=x.el/\x.el <yY m L:=by
 unfold bO at hx;rcases List.mem_append.1 hx with hx|hx
 ·obtain⟨j,z,_,_,rfl⟩:=zY.1 hx;cases hk
 ·obtain⟨j,L,u,v,rfl⟩:=Ep.1 hx;have y:=mM.1 (h.lock L (List.mem_of_getElem? u));have:=J5 h.kV y v;refine⟨j,L,u,by simp,v,?_,rfl,this.1,this.2⟩;show jZ m L e=decide ((if jZ m L e=true then R else 1)=R)
  cases jZ m L e with
  |true=>simp
  |false=>simp;omega
end
def uC(d:List bv)(c:Int):Int:=d.foldl (fun n x=>if x.cell=c then n+x.add else n) 0
def rZ(s:List Int)(d:List bv):List Int:=(List.range s.length).map fun i=>s.getD i 0+uC d i
def N2{s:List Int}{d:List bv}{i:Nat}(h:i <s.length):(rZ s d).getD i 0=s.getD i 0+uC d i:=by
 unfold rZ;rw[List.getD_eq_getElem?_getD,List.getElem?_map,List.getElem?_range h];rfl
theorem Ha{c:Int}:∀(d:List bv) (a:Int),(∀x∈d,x.cell≠c)->d.foldl (fun n x=>if x.cell=c then n+x.add else n) a=a
 |[],a,_=>rfl
 |x::d,a,h=>by
  rw[List.foldl_cons,if_neg (h x (by simp))];exact Ha d a fun y u=>h y (by simp[u])
def BR(x:bv)(d:List bv)(c:Int):dJ (x::d) c=if x.cell=c then x.add else dJ d c:=by
 unfold dJ;rw[List.find?_cons];by_cases h:x.cell=c <;>simp[h]
theorem Bp:∀{d:List bv} {c:Int},d.Pairwise (fun y x=>y.cell <x.cell)->uC d c=dJ d c
 |[],c,_=>rfl
 |x::d,c,h=>by
  rw[List.pairwise_cons]at h;rw[BR];by_cases u:x.cell=c
  ·rw[if_pos u];unfold uC;rw[List.foldl_cons,if_pos u,Ha _ _ fun y v=>by have:=h.1 y v;omega];omega
  ·rw[if_neg u,<- Bp h.2];unfold uC;rw[List.foldl_cons,if_neg u]
def HU(d:List bv)(c:Int):dJ d c=0\/∃x∈d,x.cell=c/\dJ d c=x.add:=by
 unfold dJ
 cases u:d.find? (fun x=>decide (x.cell=c))with
 |none=>exact .inl rfl
 |some x=>exact .inr ⟨x,List.mem_of_find?_eq_some u,by simpa using List.find?_some u,rfl⟩
section
variable {m:Md} {p:Pln} {e f k R:Int} {L:Lck}
def vq(h:b7 m=true)(hk:bC m k=true):allI (eu (bH m.ai m.tables true).length (m.au.getD k.toNat fv).eff.delta) (m.au.getD k.toNat fv).eff.delta=true:=by
 have u:=uY h (pA hk);unfold dA lC at u;simp only[Bool.and_eq_true]at u;exact u.2.2.1.1
def Cy{n:Int}{d:List bv}(h:allI (eu n d) d=true):d.Pairwise fun y x=>y.cell <x.cell:=by
 refine(uo (f:=bv.cell)).1 ?_;unfold cq;rw[gu]at h⊢;intro i x u;have:=h i x u;unfold eu at this;simp only[Bool.and_eq_true,Bool.or_eq_true,decide_eq_true_eq]at this
 cases i with
 |zero=>simp
 |succ i=>
  have v:i+1 <d.length:=(List.getElem?_eq_some_iff.1 u).1;have z:d[i]?=some (d.getD i ⟨0,0⟩):=getD_some (by omega);rw[Nat.add_sub_cancel,z];have h2:=this.2.1;rw[Nat.add_sub_cancel]at h2;rcases h2 with h2|h2
  ·omega
  ·simpa using h2
def Ra{n:Int}{l:List Tm}(h:allI (fK n l) l=true):l.Pairwise fun y x=>y.cell <x.cell:=by
 refine(uo (f:=Tm.cell)).1 ?_;unfold cq;rw[gu]at h⊢;intro i x u;have:=h i x u;unfold fK at this;simp only[Bool.and_eq_true,Bool.or_eq_true,decide_eq_true_eq]at this
 cases i with
 |zero=>simp
 |succ i=>
  have v:i+1 <l.length:=(List.getElem?_eq_some_iff.1 u).1;have z:l[i]?=some (l.getD i ⟨0,0⟩):=getD_some (by omega);rw[Nat.add_sub_cancel,z];have h2:=this.2.1;rw[Nat.add_sub_cancel]at h2;rcases h2 with h2|h2
  ·omega
  ·simpa using h2
def uE{n:Int}{l:List Tm}(h:allI (fK n l) l=true){t:Tm}(ht:t∈l):(0<=t.cell/\t.cell <n)/\(-1000<=t.bU/\t.bU<=1000):=by
 obtain⟨i,u⟩:=List.mem_iff_getElem?.1 ht;have:=gu.1 h i t u;unfold fK cH at this;simp only[Bool.and_eq_true,decide_eq_true_eq]at this;exact⟨this.1,this.2.2.2⟩
def Cx{n:Int}{l:List bv}(h:allI (eu n l) l=true){t:bv}(ht:t∈l):(0<=t.cell/\t.cell <n)/\(-1000000000<=t.add/\t.add<=1000000000):=by
 obtain⟨i,u⟩:=List.mem_iff_getElem?.1 ht;have:=gu.1 h i t u;unfold eu cH at this;simp only[Bool.and_eq_true,decide_eq_true_eq]at this;exact⟨this.1,this.2.2.2⟩
def HY{n:Int}{d:List bv}(h:allI (eu n d) d=true)(c:Int): -1000000000<=dJ d c/\dJ d c<=1000000000:=by
 rcases HU d c with h1|⟨x,u,_,h1⟩
 ·omega
 ·rw[h1];exact(Cx h u).2
def uD{n:Nat}{l:List Tm}(h:allI (fK n l) l=true):l.length<=n:=by
 have:=Ai n (l.map Tm.cell) (by
  have:=Ra h;rw[List.Nodup,List.pairwise_map];exact this.imp fun h=>Int.ne_of_lt h) (by
  intro x v;obtain⟨t,u,rfl⟩:=List.mem_map.1 v;exact(uE h u).1)
 simpa using this
def ll.row(h:ll m p){x:bI}(hx:x∈p.ao):cD (bH m.ai m.tables true).length (rowOf m x)=true:=by
 obtain⟨⟨h1,h2⟩,h3⟩:=h.ao x hx;have u:=h.kV;unfold b7 lz at u;simp only[Bool.and_eq_true]at u;have:=gu.1 u.2.1.2.2 x.bz.toNat _ (getD_some (z:=lg) (by omega));unfold jA at this;simp only[Bool.and_eq_true,Bool.or_eq_true,decide_eq_true_eq]at this;rcases this.2 with h4|h4
 ·exact h4.2.2.2
 ·omega
def mZ{n:Int}{r:Rw}(h:cD n r=true):allI (fK n r.a8) r.a8=true:=by
 unfold cD at h;simp only[Bool.and_eq_true]at h;exact h.1
def Pm{n:Int}{r:Rw}(h:cD n r=true): -1000000000<=r.ib/\r.ib<=1000000000:=by
 unfold cD cH at h;simp only[Bool.and_eq_true,decide_eq_true_eq]at h;exact h.2
def EE{a b A B:Int}(ha : -A<=a/\a<=A)(hb : -B<=b/\b<=B): -(A*B)<=a*b/\a*b<=A*B:=by
 have u:0<=A:=by omega
 have v:0<=B:=by omega
 have h:(a*b).natAbs<=(A*B).natAbs:=by
  rw[Int.natAbs_mul,Int.natAbs_mul];exact Nat.mul_le_mul (by omega) (by omega)
 have:0<=A*B:=Int.mul_nonneg u v;omega
def Bn{α:Type}{g:Int->α->Int}{B:Int}(z:0<=B){l:List α}(hg:∀n,∀x∈l,n - B<=g n x/\g n x<=n+B)(a:Int):a - B*l.length<=l.foldl g a/\l.foldl g a<=a+B*l.length:=by
 induction l generalizing a with
 |nil=>simp
 |cons x l v=>
  have h1:=hg a x (by simp);have h2:=v (fun n y u=>hg n y (by simp[u])) (g a x);rw[List.foldl_cons,List.length_cons]
  have e:B*((l.length+1:Nat):Int)=B*l.length+B:=by
   rw[Int.natCast_add,Int.mul_add];simp
  rw[e];omega
theorem vh{s:Int}:∀(l:List bI) (i:Nat),(aT m k s i l).length=l.countP fun y=>decide (0 <s*dY m k (rowOf m y))
 |[],_=>rfl
 |y::l,i=>by
  rw[aT,List.countP_cons];split
  ·rename_i h;rw[List.length_cons,vh l (i+1)];simp[h]
  ·rename_i h;rw[vh l (i+1)];simp[h]
theorem xo:∀(l:List Lck) (i:Nat),(dt m k R i l).length=l.countP fun L=>fD L k
 |[],_=>rfl
 |L::l,i=>by
  rw[dt,List.countP_cons];split
  ·rename_i h;rw[List.length_cons,xo l (i+1)]
  ·rename_i h;rw[xo l (i+1)];simp[h]
structure qS (q p:Pln):Prop where
 ao:q.ao.Sublist p.ao
 aD:q.aD.Sublist p.aD
 places:q.places.Sublist p.places
 bh:q.bh=p.bh
def qS.ok{q:Pln}(hq:qS q p)(h:ll m p):ll m q where
 kV:=h.kV
 eN:=Nat.le_trans hq.aD.length_le h.eN
 ri:=AP hq.ao h.ri
 ao:=fun x u=>h.ao x (hq.ao.subset u)
 lock:=fun L y=>h.lock L (hq.aD.subset y)
 Ec:=AP hq.aD h.Ec
 Fl:=AP hq.places h.Fl
 place:=fun x u=>h.place x (hq.places.subset u)
 rQ:=by rw[hq.bh];exact h.rQ
 bh:=fun o v=>by rw[hq.bh]at v;exact⟨(h.bh o v).1,fun x u=>(h.bh o v).2 x (hq.places.subset u)⟩
def qS.Ac{q:Pln}(hq:qS q p):(bO m q k R).length<=(bO m p k R).length:=by
 unfold bO;rw[List.length_append,List.length_append,vh,vh,xo,xo];exact Nat.add_le_add (hq.ao.countP_le) (hq.aD.countP_le)
def qS.NX{q:Pln}(hq:qS q p)(h:eH q k=true):eH p k=true:=H7 hq.places h
end
def aU{α:Type}(f:α->Int)(l:List α):Nat->Int
 |0=> -1
 |i+1=>match l[i]? with
  |some y=>f y
  |none=> -1
def wi{α:Type}{f:α->Int}{g:α->Bool}{l:List α}:allI (fun i x=>decide (aU f l i <f x)&&g x) l=(cq f l&&l.all fun x=>decide (0<=f x)&&g x):=by
 rw[Bool.eq_iff_iff,Bool.and_eq_true,gu];unfold cq;rw[gu,List.all_eq_true];constructor
 ·intro h
  have h1:∀(i:Nat) (x:α),l[i]?=some x->0<=f x:=by
   intro i
   induction i with
   |zero=>
    intro x u;have:=h 0 x u;rw[Bool.and_eq_true,decide_eq_true_eq]at this;have h2:(-1:Int)<f x:=this.1;omega
   |succ i D=>
    intro x u;have y:i+1 <l.length:=(List.getElem?_eq_some_iff.1 u).1;have v:l[i]?=some l[i]:=List.getElem?_eq_getElem (by omega);have:=h (i+1) x u;rw[Bool.and_eq_true,decide_eq_true_eq]at this;have h2:=this.1;simp only[aU,v]at h2;have:=D _ v;omega
  refine⟨fun i x u=>?_,fun x u=>?_⟩
  ·cases i with
   |zero=>rfl
   |succ i=>
    have y:i+1 <l.length:=(List.getElem?_eq_some_iff.1 u).1;have v:l[i]?=some l[i]:=List.getElem?_eq_getElem (by omega);have:=h (i+1) x u;rw[Bool.and_eq_true,decide_eq_true_eq]at this;have h2:=this.1;simp only[aU,v]at h2;rw[Nat.add_sub_cancel,v];simp[h2]
  ·obtain⟨i,z⟩:=List.mem_iff_getElem?.1 u;have:=h i x z;rw[Bool.and_eq_true]at this⊢;exact⟨decide_eq_true (h1 i x z),this.2⟩
 ·rintro⟨h1,h2⟩ i x u;have h3:=h2 x (List.mem_of_getElem? u);rw[Bool.and_eq_true,decide_eq_true_eq]at h3⊢;refine⟨?_,h3.2⟩
  cases i with
  |zero=>show(-1:Int)<f x;omega
  |succ i=>
   have y:i+1 <l.length:=(List.getElem?_eq_some_iff.1 u).1;have v:l[i]?=some l[i]:=List.getElem?_eq_getElem (by omega);have:=h1 (i+1) x u;rw[Nat.add_sub_cancel,v]at this;simp only[aU,v];simpa using this
section
variable {m:Md} {p:Pln}
def ri(m:Md)(l:List bI):Bool:=allI (fun(i:Nat) (x:bI)=>decide (aU bI.bz l i <x.bz)&&(decide (x.bz <m.cons.length)&&decide ((m.cons.getD x.bz.toNat lg).kind=0))) l
def Ke(l:List bI):ri m l=tf m l:=by
 unfold ri tf;rw[wi (f:=bI.bz) (g:=fun x=>decide (x.bz <m.cons.length)&&decide ((m.cons.getD x.bz.toNat lg).kind=0))];simp only[Bool.and_assoc]
def zZ(m:Md)(fit:Int->Bool)(l:List Mem):Bool:=allI (fun(i:Nat) (x:Mem)=>decide (aU Mem.act l i <x.act)&&(decide (x.act <m.au.length)&&fit (bg m x.act))) l
def Er(fit:Int->Bool)(l:List Mem):zZ m fit l=gD m fit l:=by
 unfold zZ gD bC;rw[wi (f:=Mem.act) (g:=fun x=>decide (x.act <m.au.length)&&fit (bg m x.act))];simp only[Bool.and_assoc]
def oP(a b:Lck):Bool:=decide (a.a <b.a)||(decide (a.a=b.a)&&decide (a.b <b.b))
def Ea(hm:m.ops.length<=8){a b:Lck}(ha:iY m a)(hb:iY m b):oP a b=decide (jN a <jN b):=by
 have:=ha.a0;have:=ha.ab;have:=ha.b;have:=hb.a0;have:=hb.ab;have:=hb.b;unfold oP jN;rw[Bool.eq_iff_iff];simp only[Bool.or_eq_true,Bool.and_eq_true,decide_eq_true_eq];omega
def E_(h:b7 m=true):m.ops.length<=8:=by
 unfold b7 pB at h;simp only[Bool.and_eq_true,decide_eq_true_eq]at h;exact h.2.2.1.1.2.1
def zT(m:Md)(l:List Lck):Bool:=allI (fun i L=>dq m L&&(decide (i=0)||match l[i - 1]? with|some y=>oP y L|none=>false)) l
def MJ(hm:m.ops.length<=8)(l:List Lck):zT m l=(l.all (dq m)&&cq jN l):=by
 unfold zT cq;rw[Bool.eq_iff_iff,Bool.and_eq_true,gu,gu,List.all_eq_true];constructor
 ·intro h
  have h1:∀L∈l,dq m L=true:=fun L u=>by
   obtain⟨i,z⟩:=List.mem_iff_getElem?.1 u;have:=h i L z;rw[Bool.and_eq_true]at this;exact this.1
  refine⟨h1,fun i L u=>?_⟩;have:=h i L u;rw[Bool.and_eq_true]at this;have h2:=this.2
  cases v:l[i - 1]? with
  |none=>rw[v]at h2;exact h2
  |some y=>
   rw[v]at h2;show(decide (i=0)||decide (jN y <jN L))=true
   rw[<- Ea hm (mM.1 (h1 y (List.mem_of_getElem? v))) (mM.1 (h1 L (List.mem_of_getElem? u)))];exact h2
 ·rintro⟨h1,h2⟩ i L u;rw[Bool.and_eq_true];refine⟨h1 L (List.mem_of_getElem? u),?_⟩;have h3:=h2 i L u
  cases v:l[i - 1]? with
  |none=>rw[v]at h3;exact h3
  |some y=>
   rw[v]at h3;show(decide (i=0)||oP y L)=true
   rw[Ea hm (mM.1 (h1 y (List.mem_of_getElem? v))) (mM.1 (h1 L (List.mem_of_getElem? u)))];exact h3
def qt(m:Md)(p:Pln)(o:Int):Bool:=!m.au.zipIdx.any fun a=>decide (a.1.op=o)&&eH p (a.2:Int)
def Ng(hp:∀x∈p.places,bC m x.act=true)(o:Int):qt m p o=!p.places.any fun x=>decide (bg m x.act=o):=by
 unfold qt;congr 1;rw[Bool.eq_iff_iff,List.any_eq_true,List.any_eq_true];constructor
 ·rintro⟨⟨a,k⟩,u,y⟩;rw[Bool.and_eq_true,decide_eq_true_eq]at y;obtain⟨x,v,z⟩:=As.1 y.2;have z:x.act=(k:Int):=z;have u:=List.mem_zipIdx_iff_getElem?.1 u;refine⟨x,v,decide_eq_true ?_⟩;unfold bg;rw[z,show((k:Int)).toNat=k by omega,List.getD_eq_getElem?_getD];have u:m.au[k]?=some a:=u;rw[u];exact y.1
 ·rintro⟨x,v,D⟩;have h1:=pA (hp x v);have h2:=eC.1 (hp x v);refine⟨(_,x.act.toNat),List.mem_zipIdx_iff_getElem?.2 h1,?_⟩;rw[Bool.and_eq_true];refine⟨D,As.2 ⟨x,v,?_⟩⟩;show x.act=((x.act.toNat:Nat):Int)
  omega
def rQ(m:Md)(p:Pln):Bool:=allI (fun(i:Nat) (o:Int)=>decide (aU id p.bh i <o)&&((decide (o <m.ops.length)&&(eG m o).ord)&&qt m p o)) p.bh
def Nh(hp:∀x∈p.places,bC m x.act=true):rQ m p=wA m p:=by
 unfold rQ wA fg;have:=wi (f:=(id:Int->Int)) (g:=fun o=>(decide (o <m.ops.length)&&(eG m o).ord)&&qt m p o) (l:=p.bh);simp only[id]at this⊢;rw[this];simp only[Ng hp,Bool.and_assoc]
def Au(m:Md)(p:Pln):Bool:=(b7 m&&decide (p.aD.length<=64))&&(ri m p.ao&&(zT m p.aD&&(zZ m (fg m) p.places&&rQ m p)))
def NY:Au m p=cX m p:=by
 unfold Au cX;rw[Ke,Er]
 cases y:b7 m with
 |false=>rfl
 |true=>
  rw[MJ (E_ y)]
  cases v:gD m (fg m) p.places with
  |false=>simp only[Bool.false_and,Bool.and_false]
  |true=>
   have u:∀x∈p.places,bC m x.act=true:=fun x z=>by
    unfold gD at v;rw[Bool.and_eq_true]at v;have:=List.all_eq_true.1 v.2 x z;rw[Bool.and_eq_true]at this;exact this.1
   rw[Nh u];cases decide (p.aD.length<=64)<;>cases tf m p.ao <;>cases p.aD.all (dq m)<;>cases cq jN p.aD <;>rfl
end
def ly(m:Md)(l:List (Int×Int))(i:Nat)(c:Cn):Bool:=
 (decide (0<=c.kF)&&decide (c.kF <m.bx.length))&&((if c.kind=0 then decide (c.first=0)&&(decide (c.size=0)&&cD l.length c.row)else decide (c.kind=1)&&jH m c)&&
  (match l[i/2]? with|some r=>decide (c.kind=0)&&decide (c.row=if i %2=0 then nS (i/2) r else qB (i/2) r)|none=>true))
def re(m:Md)(l:List (Int×Int)):Bool:=(decide (m.cons.length<=512)&&decide (2*l.length<=m.cons.length))&&allI (ly m l) m.cons
def vU{α:Type}{l:List α}{i:Nat}{x z:α}(h:l[i]?=some x):l.getD i z=x:=by rw[List.getD_eq_getElem?_getD,h];rfl
def Jw(m:Md)(l:List (Int×Int)):re m l=lz m l:=by
 unfold re lz;rw[Bool.and_comm (decide (m.cons.length<=512))];by_cases I:2*l.length<=m.cons.length
 ·by_cases J:m.cons.length<=512
  ·simp only[I,J,decide_true,Bool.true_and];rw[Bool.eq_iff_iff,Bool.and_eq_true,gu,gu,gu];constructor
   ·intro h;refine⟨fun i r y=>?_,fun i c u=>?_⟩
    ·have Z:i <l.length:=(List.getElem?_eq_some_iff.1 y).1;obtain⟨c,u⟩:∃c,m.cons[2*i]?=some c:=⟨_,List.getElem?_eq_getElem (by omega)⟩;obtain⟨d,hd⟩:∃d,m.cons[2*i+1]?=some d:=⟨_,List.getElem?_eq_getElem (by omega)⟩;have h1:=h _ c u;have h2:=h _ d hd;unfold ly at h1 h2;rw[show 2*i/2=i by omega,show 2*i %2=0 by omega,y]at h1;rw[show(2*i+1) /2=i by omega,show(2*i+1) %2=1 by omega,y]at h2;simp only[Bool.and_eq_true,decide_eq_true_eq,if_true]at h1 h2;unfold mW;rw[vU u,vU hd,h1.2.2.2,h2.2.2.2];simp
    ·have h1:=h i c u;unfold ly at h1;unfold jA;rw[Bool.and_eq_true]at h1⊢;refine⟨h1.1,?_⟩;have h2:=h1.2;rw[Bool.and_eq_true]at h2;by_cases v:c.kind=0
     ·rw[if_pos v]at h2;rw[h2.1,v];simp
     ·rw[if_neg v]at h2
      have:2*l.length<=i:=by
       rcases Nat.lt_or_ge i (2*l.length)with ab|D
       ·have U:=h2.2;rw[List.getElem?_eq_getElem (show i/2 <l.length by omega)]at U;simp[v]at U
       ·exact D
      simp only[this,decide_true,Bool.true_and,h2.1,Bool.or_true]
   ·rintro⟨hp,ho⟩ i c u;have h1:=ho i c u;unfold jA at h1;unfold ly;rw[Bool.and_eq_true]at h1⊢;refine⟨h1.1,?_⟩;have h2:=h1.2;simp only[Bool.or_eq_true,Bool.and_eq_true,decide_eq_true_eq]at h2;rw[Bool.and_eq_true];constructor
    ·rcases h2 with⟨h3,h4⟩|⟨h3,h4,V⟩
     ·rw[if_pos h3];simp only[Bool.and_eq_true,decide_eq_true_eq];exact h4
     ·rw[if_neg (by omega),V,h4];rfl
    ·cases y:l[i/2]? with
     |none=>rfl
     |some r=>
      have Z:i/2 <l.length:=(List.getElem?_eq_some_iff.1 y).1;have z:=hp _ r y;unfold mW at z;rw[Bool.and_eq_true,decide_eq_true_eq,decide_eq_true_eq]at z
      have v:c.kind=0:=by
       rcases h2 with⟨h3,_⟩|⟨h3,_⟩
       ·exact h3
       ·omega
      simp only[v,decide_true,Bool.true_and,decide_eq_true_eq];by_cases G:i %2=0
      ·rw[if_pos G,<- z.1,show 2*(i/2)=i by omega,vU u]
      ·rw[if_neg G,<- z.2,show 2*(i/2)+1=i by omega,vU u]
  ·simp only[J,decide_false,Bool.and_false,Bool.false_and]
 ·simp only[I,decide_false,Bool.false_and]
def cmpL:List Int->List Int->Int
 |x::a,y::b=>if x <y then -1 else if y <x then 1 else cmpL a b
 |[],[]=>0
 |[],_::_=> -1
 |_::_,[]=>1
theorem CE:∀(a b:List Int),decide (cmpL a b <0)=iN a b
 |[],[]=>rfl
 |[],_::_=>rfl
 |_::_,[]=>rfl
 |x::a,y::b=>by
  unfold cmpL iN;by_cases h1:x <y
  ·rw[if_pos h1,if_neg (by omega)];simp[h1]
  ·rw[if_neg h1];by_cases h2:y <x
   ·rw[if_pos h2,if_neg (by omega)];simp[h1]
   ·rw[if_neg h2,if_pos (by omega)];exact CE a b
def iH(u v:List Int):Bool:=decide (v.length<=3)&&v.all (cr u)
def r9(t:Tb):Bool:=if t.kind=1\/t.kind=4\/t.kind=5 then decide (t.lo<=t.hi)&&(decide (-9999<=t.lo)&&decide (t.hi<=9999))else decide (t.lo=0)&&decide (t.hi=1)
def l9(v:List Int)(l:List Tb)(i:Nat)(t:Tb):Bool:=
 (gE t.name&&(!((l.take i).any fun u=>decide (u.name=t.name))&&((decide (0<=t.kind)&&decide (t.kind<=5))&&(iH v t.av&&r9 t))))&&decide (t.first=bp v (bA t.kind) (l.take i))
def Aj{u v:List Int}(hs:cx u=true)(hc:iH u v=true):bG u v=c6 u v:=by
 unfold iH at hc;unfold bG;rw[Bool.and_eq_true]at hc;rw[if_pos (by rw[hs,hc.1,hc.2];rfl)]
def Nt{u y:List Int}(hs:cx u=true):(!decide (bG u y=0))=iH u y:=by
 cases v:iH u y with
 |true=>
  rw[Aj hs v];unfold iH at v;rw[Bool.and_eq_true,decide_eq_true_eq]at v;have:=(mY hs v.2 (by omega)).1;simp;omega
 |false=>
  unfold bG;unfold iH at v;rw[if_neg]
  ·rfl
  ·rw[Bool.and_eq_true,Bool.and_eq_true];rintro⟨⟨h1,_⟩,h2⟩;rw[h1,h2]at v;cases v
def O8{t:Tb}(h0:0<=t.kind)(u:t.kind<=5):r9 t=r_ t:=by
 have:t.kind=0\/t.kind=1\/t.kind=2\/t.kind=3\/t.kind=4\/t.kind=5:=by omega
 unfold r9 r_;rw[Bool.eq_iff_iff];rcases this with e|e|e|e|e|e <;>rw[e]<;>simp <;>omega
def Q4{v:List Int}{l:List Tb}{i:Nat}{t:Tb}(hs:cx v=true):l9 v l i t=iz v l i t:=by
 unfold l9 iz;rw[Nt hs];by_cases y:0<=t.kind/\t.kind<=5
 ·rw[O8 y.1 y.2];cases gE t.name <;>cases(!(l.take i).any fun u=>decide (u.name=t.name))<;>cases(decide (0<=t.kind)&&decide (t.kind<=5))<;>cases iH v t.av <;>cases r_ t <;>cases decide (t.first=bp v (bA t.kind) (l.take i))<;>rfl
 ·have:(decide (0<=t.kind)&&decide (t.kind<=5))=false:=by
   rw[<- Bool.not_eq_true,Bool.and_eq_true,decide_eq_true_eq,decide_eq_true_eq];exact y
  rw[this];cases gE t.name <;>cases(!(l.take i).any fun u=>decide (u.name=t.name))<;>rfl
def u1{α:Type}{p q:Nat->α->Bool}{l:List α}(h:∀i x,p i x=q i x):allI p l=allI q l:=by
 have:p=q:=funext fun i=>funext fun x=>h i x;rw[this]
def tM(u:List Int)(l:List Tb):Bool:=(decide (u.length<=4)&&(decide (l.length<=12)&&cx u))&&(allI (l9 u l) l&&(decide (bp u true l<=128)&&decide (bp u false l<=64)))
def wj(u:List Int)(l:List Tb):tM u l=bQ u l:=by
 unfold tM bQ
 cases hs:cx u with
 |true=>
  rw[u1 (p:=l9 u l) (q:=iz u l) fun i x=>Q4 hs];cases decide (u.length<=4)<;>cases decide (l.length<=12)<;>rfl
 |false=>cases decide (u.length<=4)<;>cases decide (l.length<=12)<;>rfl
def CG{u:List Int}{l:List Tb}{q:Nat}{t:Tb}{s:Bool}(hs:cx u=true)(hc:iH u t.av=true)(h:l[q]?=some t):bp u s (l.take (q+1))=if bA t.kind=s then bp u s (l.take q)+c6 u t.av else bp u s (l.take q):=by
 rw[rc s h,Aj hs hc]
def rP(m:Md):Bool:=(tM m.ai m.tables&&(decide (m.bx.length<=24)&&gP m.bx))&&
 (re m (bH m.ai m.tables true)&&(((decide ((m.ops.map (·.name)).length<=8)&&gP (m.ops.map (·.name)))&&m.ops.all (eF m))&&((decide (m.au.length<=256)&&allI (dA m (bH m.ai m.tables true).length) m.au)&&gC m)))
def M7(m:Md):rP m=b7 m:=by
 unfold rP b7 pB;rw[wj,Jw,List.length_map];cases bQ m.ai m.tables <;>cases decide (m.bx.length<=24)<;>cases gP m.bx <;>cases lz m (bH m.ai m.tables true)<;>cases m.ops.all (eF m)<;>cases decide (m.ops.length<=8)<;>cases gP (m.ops.map (·.name))<;>cases decide (m.au.length<=256)<;>rfl
def Aw{α:Type}{f:α->Int}{z:α}{g:α->Bool}{l:List α}:allI (fun i x=>(decide (0<=f x)&&(decide (i=0)||decide (f (l.getD (i - 1) z)<f x)))&&g x) l=allI (fun i x=>decide (aU f l i <f x)&&g x) l:=by
 rw[wi];rw[Bool.eq_iff_iff,Bool.and_eq_true,gu];unfold cq;rw[gu,List.all_eq_true]
 have v:∀(i:Nat) (x:α),l[i]?=some x->(decide (i=0)||decide (f (l.getD (i - 1) z)<f x))=(decide (i=0)||match l[i - 1]? with|some y=>decide (f y <f x)|none=>false):=by
  intro i x u
  cases i with
  |zero=>rfl
  |succ i=>
   have G:i+1 <l.length:=(List.getElem?_eq_some_iff.1 u).1;have I:l[i]?=some l[i]:=List.getElem?_eq_getElem (by omega);rw[Nat.add_sub_cancel,List.getD_eq_getElem?_getD,I];rfl
 constructor
 ·intro h;refine⟨fun i x u=>?_,fun x u=>?_⟩
  ·have h1:=h i x u;simp only[Bool.and_eq_true]at h1;have h2:=v i x u;show(decide (i=0)||match l[i - 1]? with|some y=>decide (f y <f x)|none=>false)=true
   rw[<- h2];exact h1.1.2
  ·obtain⟨i,D⟩:=List.mem_iff_getElem?.1 u;have h1:=h i x D;simp only[Bool.and_eq_true]at h1;rw[Bool.and_eq_true];exact⟨h1.1.1,h1.2⟩
 ·rintro⟨h1,h2⟩ i x u;have h3:=h2 x (List.mem_of_getElem? u);rw[Bool.and_eq_true]at h3;show((decide (0<=f x)&&(decide (i=0)||decide (f (l.getD (i - 1) z)<f x)))&&g x)=true
  rw[Bool.and_eq_true,Bool.and_eq_true];exact⟨⟨h3.1,by rw[v i x u];exact h1 i x u⟩,h3.2⟩
def pf(n:Int)(l:List Tm)(i:Nat)(t:Tm):Bool:=decide (aU Tm.cell l i <t.cell)&&(decide (t.cell <n)&&(!decide (t.bU=0)&&cH t.bU 1000))
def Q_(n:Int)(l:List Tm):allI (pf n l) l=allI (fK n l) l:=by
 have:=Aw (f:=Tm.cell) (z:=⟨0,0⟩) (g:=fun t=>decide (t.cell <n)&&(!decide (t.bU=0)&&cH t.bU 1000)) (l:=l);show allI (fun i t=>decide (aU Tm.cell l i <t.cell)&&(decide (t.cell <n)&&(!decide (t.bU=0)&&cH t.bU 1000))) l=_
 rw[<- this];refine u1 fun i t=>?_;unfold fK;cases decide (0<=t.cell)<;>cases decide (t.cell <n)<;>cases(decide (i=0)||decide ((l.getD (i - 1) ⟨0,0⟩).cell <t.cell))<;>rfl
def nv(n:Int)(l:List bv)(i:Nat)(t:bv):Bool:=decide (aU bv.cell l i <t.cell)&&(decide (t.cell <n)&&(!decide (t.add=0)&&cH t.add 1000000000))
def I3(n:Int)(l:List bv):allI (nv n l) l=allI (eu n l) l:=by
 have:=Aw (f:=bv.cell) (z:=⟨0,0⟩) (g:=fun t=>decide (t.cell <n)&&(!decide (t.add=0)&&cH t.add 1000000000)) (l:=l);show allI (fun i t=>decide (aU bv.cell l i <t.cell)&&(decide (t.cell <n)&&(!decide (t.add=0)&&cH t.add 1000000000))) l=_
 rw[<- this];refine u1 fun i t=>?_;unfold eu;cases decide (0<=t.cell)<;>cases decide (t.cell <n)<;>cases(decide (i=0)||decide ((l.getD (i - 1) ⟨0,0⟩).cell <t.cell))<;>rfl
def pj(m:Md)(u:cG):Bool:=match fI m.ai m.tables false u.cell with
 |some (_,t)=>nY u t
 |none=>false
theorem zt{f:Tb->Bool}:∀{i:Nat} {l:List Tb} {r:Nat×Tb},fV f i l=some r->f r.2=true
 |_,[],_,h=>by cases h
 |i,t::l,r,h=>by
  unfold fV at h;split at h
  ·cases h;assumption
  ·exact zt h
def Q6{S:List Int}{L:List Tb}{s:Bool}{c:Int}{r:Nat×Tb}(h:fI S L s c=some r):0<=c:=by
 unfold fI at h;split at h
 ·have:=zt h;unfold ff at this;simp only[Bool.and_eq_true,decide_eq_true_eq]at this;exact this.2.1
 ·cases h
def nX(m:Md)(l:List cG)(i:Nat)(u:cG):Bool:=decide (aU cG.cell l i <u.cell)&&pj m u
def RB(m:Md)(l:List cG):allI (nX m l) l=allI (gY m l) l:=by
 have:=Aw (f:=cG.cell) (z:=⟨0,0,0⟩) (g:=pj m) (l:=l);show allI (fun i u=>decide (aU cG.cell l i <u.cell)&&pj m u) l=_
 rw[<- this];refine u1 fun i u=>?_;unfold gY pj
 cases h:fI m.ai m.tables false u.cell with
 |none=>simp only[Bool.and_false]
 |some r=>
  have v:=Q6 h;rw[decide_eq_true v,Bool.true_and]
def yW(m:Md)(n:Int)(x:jv):Bool:=allI (nv n x.delta) x.delta&&(allI (nX m x.cg) x.cg&&(decide (x.hold.length<=8)&&(decide (x.cg.length<=32)&&x.hold.all (cD n))))
def J4(m:Md)(n:Int)(x:jv):yW m n x=lC m n x:=by
 unfold yW lC;rw[I3,RB];cases allI (eu n x.delta) x.delta <;>cases allI (gY m x.cg) x.cg <;>cases decide (x.hold.length<=8)<;>cases decide (x.cg.length<=32)<;>cases x.hold.all (cD n)<;>rfl
end Go.Proofs.YtjolgbkkocjpgaaGreatDoor
