/- Tokens as the code reads them: the first token of a word,and names. Plain Lean. No condition. -/
import Derived.Test.YtjolgbkkocjpgaaGreatDoorTS
set_option linter.defProp false
set_option linter.unusedSimpArgs false
set_option linter.unusedVariables false
set_option linter.unusedSectionVars false
namespace Go.Proofs.YtjolgbkkocjpgaaGreatDoor
def dC(b:UInt8):Bool:=!decide (b.toNat=10)
theorem C9:∀(l:List UInt8),aT true l=aP dC l+aT false (l.drop (aP dC l))
 |[]=>rfl
 |b::r=>by
  by_cases h:b.toNat=10
  ·have u:aT true (b::r)=aT false r+1:=by rw[aT,if_pos h]
   have v:aP dC (b::r)=0:=by unfold aP;rw[if_neg (by simp[dC,h])]
   have y:aT false (b::r)=aT false r+1:=by rw[aT,if_pos (by simp[dp,h])]
   rw[u,v,List.drop_zero,y];omega
  ·have u:aT true (b::r)=aT true r+1:=by rw[aT,if_neg h]
   have v:aP dC (b::r)=aP dC r+1:=by rw[aP,if_pos (by simp[dC,h])]
   rw[u,v,List.drop_succ_cons,C9 r];omega
def JV{b:UInt8}{r:List UInt8}(h1:dp b=false)(h:b.toNat=35):aT false (b::r)=aP dC (b::r)+aT false ((b::r).drop (aP dC (b::r))):=by
 have u:aT false (b::r)=aT true r+1:=by rw[aT,if_neg (by simp[h1]),if_pos h]
 have v:aP dC (b::r)=aP dC r+1:=by rw[aP,if_pos (by simp[dC,h])]
 rw[u,v,List.drop_succ_cons,C9 r];omega
def k7:List (List UInt8):=[[61,61],[33,61],[60,61],[62,61],[46,46]]
def k8:List UInt8:=[60,62,61,43,45,42,40,41,123,125,44,58,59]
def eW(s t:List UInt8):Bool:=decide (s.length<=t.length)&&decide (t.take s.length=s)
def fp(t:List UInt8):Nat:=if k7.any (fun s=>eW s t)=true then 2 else match t with
 |[]=>0
 |b::_=>if b∈k8 then 1 else 0
theorem C_:∀(S:List (List UInt8)) (T:List (List UInt8)) (t:List UInt8),(∀s∈S,s.length=2)->eC (S++T) t=if S.any (fun s=>eW s t)=true then 2 else eC T t
 |[],T,t,_=>by simp
 |s::S,T,t,h=>by
  rw[List.cons_append,eC,C_ S T t fun x v=>h x (by simp[v]),List.any_cons];have hs:=h s (by simp);by_cases u:s.length<=t.length/\t.take s.length=s
  ·rw[if_pos u];have:eW s t=true:=by unfold eW;simp[u]
   rw[this,Bool.true_or,if_pos rfl,hs]
  ·rw[if_neg u]
   have:eW s t=false:=by
    unfold eW;rw[<- Bool.not_eq_true,Bool.and_eq_true,decide_eq_true_eq,decide_eq_true_eq];exact u
   rw[this,Bool.false_or]
theorem Da:∀(S:List UInt8) (b:UInt8) (r:List UInt8),eC (S.map fun c=>[c]) (b::r)=if b∈S then 1 else 0
 |[],b,r=>by simp[eC]
 |c::S,b,r=>by
  rw[List.map_cons,eC,Da S b r];by_cases h:b=c
  ·rw[if_pos ⟨by simp,by simp[h]⟩,if_pos (by simp[h])];rfl
  ·rw[if_neg (by rintro⟨_,h2⟩;simp at h2;exact h h2)];simp only[List.mem_cons,h,false_or]
theorem Db:∀(S:List UInt8),eC (S.map fun c=>[c]) []=0
 |[]=>rfl
 |c::S=>by rw[List.map_cons,eC,if_neg (by simp),Db S]
def Dc(t:List UInt8):fp t=gO t:=by
 have e:pc=k7++k8.map fun c=>[c]:=by decide
 unfold gO fp;rw[e,C_ _ _ _ (by decide)]
 cases t with
 |nil=>simp only[Db]
 |cons b r=>simp only[Da]
def pi(b:UInt8)(r:List UInt8):Bool:=ec b ||(bR b ||decide (0 <fp (b::r)))
def k9:List UInt8->Nat
 |[]=>0
 |b::r=>if(!dp b&&(!decide (b.toNat=35)&&!pi b r))=true then k9 r+1 else 0
def fT:List UInt8->Int×Nat
 |[]=>(0,0)
 |b::r=>
  if ec b=true then(if(b::r).take (aP b7 (b::r))∈cT then 2 else 1,aP b7 (b::r))
  else if bR b=true then(3,aP bR (b::r))
  else if 0 <fp (b::r)then(4,fp (b::r))
  else(5,1+k9 r)
def nQ(l:List UInt8):Int:=if l.length=0\/4096 <l.length then 0 else
 if aT false l=0/\aT false l+(fT (l.drop (aT false l))).2=l.length then(fT (l.drop (aT false l))).1 else 0
theorem Dd:∀(l:List UInt8),k9 l=ed l
 |[]=>rfl
 |b::r=>by
  rw[k9,ed,Dd r,<- Dc]
  have:(!dp b&&(!decide (b.toNat=35)&&!pi b r))=true↔(dp b=false/\b.toNat≠35)/\(ec b=false/\bR b=false/\fp (b::r)=0):=by
   unfold pi;simp only[Bool.and_eq_true,Bool.not_eq_true',Bool.or_eq_false_iff,decide_eq_false_iff_not];constructor
   ·rintro⟨h1,h2,h3,h4,v⟩;exact⟨⟨h1,h2⟩,h3,h4,by omega⟩
   ·rintro⟨⟨h1,h2⟩,h3,h4,v⟩;exact⟨h1,h2,h3,h4,by omega⟩
  by_cases h:(!dp b&&(!decide (b.toNat=35)&&!pi b r))=true
  ·rw[if_pos h,if_pos (this.1 h)]
  ·rw[if_neg h,if_neg fun u=>h (this.2 u)]
def JW{b:UInt8}{r:List UInt8}(h1:dp b=false)(h2:b.toNat≠35):fT (b::r)=eS (b::r):=by
 rw[uN,fT,Dc];split
 ·rfl
 ·rename_i h3;split
  ·rfl
  ·rename_i h4;split
   ·rfl
   ·rename_i u;rw[ed,if_pos ⟨⟨h1,h2⟩,by simpa using h3,by simpa using h4,by omega⟩,Dd];rw[Nat.add_comm]
def JX(l:List UInt8):nQ l=nK l:=by
 unfold nQ nK;by_cases h1:4096 <l.length
 ·rw[if_pos (.inr h1),if_pos h1]
 ·rw[if_neg h1];by_cases y:l.length=0
  ·have:l=[]:=List.length_eq_zero_iff.1 y;subst this;rfl
  ·rw[if_neg (by omega)];unfold pd jk;rw[Nat.zero_add,List.drop_zero];by_cases hs:aT false l=0
   ·have v:0 <l.length:=by omega
    rw[hs];simp only[Nat.zero_add,true_and,List.drop_zero,if_pos v]
    cases l with
    |nil=>exact absurd rfl y
    |cons b r=>
     obtain⟨z,a2⟩:=CC (b::r) b r (by rw[hs];rfl);rw[JW z a2];by_cases u:(eS (b::r)).2=(b::r).length
     ·rw[if_pos u]
      have:jk (b::r) (b::r).length (eS (b::r)).2=[⟨0,(b::r).length,(b::r).length,(b::r).length⟩]:=by
       rw[u,List.length_cons,jk,if_neg (by simp)];rfl
      rw[this];simp only[u,and_self,if_true]
     ·rw[if_neg u];split
      ·rename_i t x e;rw[List.cons.injEq]at e;rw[<- e.1];simp only[u,and_false,if_false]
      ·rfl
   ·rw[if_neg (by simp[hs])];split
    ·rename_i t x e;split at e
     ·rw[List.cons.injEq]at e;rw[<- e.1];simp only[hs,false_and,if_false]
     ·cases e
    ·rfl
structure sn where
 e:Int
 f:Int
 hold:Bool
 idx:Int
 st:List Int
structure cn where
 cF:Int
 s:sn
structure Mem where
 act:Int
 s:sn
structure Lck where
 a:Int
 b:Int
 pa:Int
 pb:Int
 mem:List Mem
structure Pln where
 aw:List cn
 aR:List Lck
 places:List Mem
 bI:List Int
def De:sn:=⟨0,0,false,0,[]⟩
def uX:cn:=⟨0,De⟩
section
variable (m:Md)
def bv(k:Int):Int:=(m.ay.getD k.toNat fk).op
def eX(o:Int):gq:=m.ops.getD o.toNat si
def b9(k:Int):Bool:=decide (0<=k)&&decide (k <m.ay.length)
def cu{α:Type}(f:α->Int)(l:List α):Bool:=allI (fun i x=>decide (i=0)||match l[i - 1]? with|some y=>decide (f y <f x)|none=>false) l
def iR(fit:Int->Bool)(l:List Mem):Bool:=cu Mem.act l&&l.all fun x=>b9 m x.act&&fit (bv m x.act)
def jq(o k:Int):Int:=if 0<=k/\k <(eX m o).ak.length then(eX m o).ak.getD k.toNat 0 else -1
def mR(L:Lck):Bool:=(decide (L.pa= -1)&&decide (L.pb= -1))||(decide (0<=jq m L.a L.pa)&&(decide (jq m L.a L.pa=jq m L.b L.pb)&&(!decide (L.a=L.b)||decide (L.pa=L.pb))))
def gv(L:Lck):Bool:=(decide (0<=L.a)&&(decide (L.a<=L.b)&&decide (L.b <m.ops.length)))&&(mR m L&&iR m (fun o=>decide (o=L.a)||decide (o=L.b)) L.mem)
def Df(l:List cn):Bool:=cu cn.cF l&&l.all fun x=>(decide (0<=x.cF)&&decide (x.cF <m.cons.length))&&decide ((m.cons.getD x.cF.toNat mM).kind=0)
def iv(o:Int):Bool:=(decide (0<=o)&&decide (o <m.ops.length))&&(eX m o).ord
def qz(L:Lck):Int:=L.a*8+L.b
def Dg(p:Pln):Bool:=cu id p.bI&&p.bI.all fun o=>iv m o&&!p.places.any fun x=>decide (bv m x.act=o)
def dD(p:Pln):Bool:=(cm m&&decide (p.aR.length<=64))&&((Df m p.aw&&(p.aR.all (gv m)&&cu qz p.aR))&&(iR m (iv m) p.places&&Dg m p))
def gw(L:Lck)(k:Int):Bool:=L.mem.any fun x=>decide (x.act=k)
def gU(p:Pln)(k:Int):Bool:=p.places.any fun x=>decide (x.act=k)
def l5(L:Lck)(k:Int):Bool:=decide (bv m k=L.b)
def k_(k i:Int):Int:=(m.ay.getD k.toNat fk).args.getD i.toNat 0
def jW(L:Lck)(k:Int):Int:=if L.pa <0 then 0 else if bv m k=L.a then k_ m k L.pa else k_ m k L.pb
def yG(L:Lck):Int:=if L.pa <0 then 1 else m.ak.getD (jq m L.a L.pa).toNat 0
def eg(l:List bD)(c:Int):Int:=match l.find? fun d=>decide (d.cell=c)with
 |some d=>d.add
 |none=>0
def pj(l:List bD)(r:Rw):Int:=r.a_.foldl (fun n t=>n+t.bN*eg l t.cell) 0
def eY(k:Int)(r:Rw):Int:=pj (m.ay.getD k.toNat fk).eff.delta r
def rowOf(x:cn):Rw:=(m.cons.getD x.cF.toNat mM).row
structure cP where
 k:Int
 i:Int
 el:Int
 n:Int
deriving DecidableEq
def bK(k sg:Int):Nat->List cn->List cP
 |_,[]=>[]
 |i,x::l=>if 0 <sg*eY m k (rowOf m x)then⟨0,i,0,sg*eY m k (rowOf m x)⟩::bK k sg (i+1) l else bK k sg (i+1) l
def eh(k r:Int):Nat->List Lck->List cP
 |_,[]=>[]
 |i,L::l=>if gw L k=true then⟨1,i,jW m L k,if l5 m L k=true then r else 1⟩::eh k r (i+1) l else eh k r (i+1) l
def cJ(p:Pln)(k r:Int):List cP:=bK m k 1 0 p.aw++eh m k r 0 p.aR
def jr(s:List Int)(r:Rw):Int:=r.a_.foldl (fun n t=>n - t.bN*s.getD t.cell.toNat 0) r.gP
def ci(p:Pln)(s:List Int):List Int:=p.aw.map fun x=>jr s (rowOf m x)
end
def so{α:Type}{f:α->Int}{l:List α}:cu f l=true↔l.Pairwise fun y x=>f y <f x:=by
 have U:cu f l=true↔∀(i:Nat) (y x:α),l[i]?=some y->l[i+1]?=some x->f y <f x:=by
  unfold cu;rw[gQ];constructor
  ·intro h i y x v u;have:=h (i+1) x u;simp only[Nat.add_sub_cancel,v]at this;simpa using this
  ·intro h k x u
   cases k with
   |zero=>simp
   |succ k=>
    have G:k+1 <l.length:=(List.getElem?_eq_some_iff.1 u).1;have v:l[k]?=some l[k]:=List.getElem?_eq_getElem (by omega);simp only[Nat.add_sub_cancel,v];have:=h k _ x v u;simpa using this
 rw[U,List.pairwise_iff_getElem];constructor
 ·intro h
  have I:∀(d i:Nat) (y x:α),l[i]?=some y->l[i+(d+1)]?=some x->f y <f x:=by
   intro d
   induction d with
   |zero=>exact fun i y x v u=>h i y x v u
   |succ d Z=>
    intro i y x v u;have G:i+(d+1+1)<l.length:=(List.getElem?_eq_some_iff.1 u).1;have J:l[i+(d+1)]?=some l[i+(d+1)]:=List.getElem?_eq_getElem (by omega);exact Int.lt_trans (Z i y _ v J) (h (i+(d+1)) _ x J u)
  intro i j z D V;exact I (j - i - 1) i _ _ (List.getElem?_eq_getElem z) (by rw[show i+(j - i - 1+1)=j by omega];exact List.getElem?_eq_getElem D)
 ·intro h i y x v u;obtain⟨z,rfl⟩:=List.getElem?_eq_some_iff.1 v;obtain⟨D,rfl⟩:=List.getElem?_eq_some_iff.1 u;exact h i (i+1) z D (by omega)
def yH{α:Type}{f:α->Int}{l u:List α}(hs:u.Sublist l)(h:cu f l=true):cu f u=true:=so.2 ((so.1 h).sublist hs)
def JY{α:Type}{f:α->Bool}{l u:List α}(hs:u.Sublist l)(h:u.any f=true):l.any f=true:=by
 obtain⟨x,y,v⟩:=List.any_eq_true.1 h;exact List.any_eq_true.2 ⟨x,hs.subset y,v⟩
section
variable {m:Md} {p:Pln} {e f k R:Int} {L:Lck}
structure la (m:Md) (p:Pln):Prop where
 lc:cm m=true
 fo:p.aR.length<=64
 yI:cu cn.cF p.aw=true
 aw:∀x∈p.aw,(0<=x.cF/\x.cF <m.cons.length)/\(m.cons.getD x.cF.toNat mM).kind=0
 lock:∀L∈p.aR,gv m L=true
 Dh:cu qz p.aR=true
 Di:cu Mem.act p.places=true
 place:∀x∈p.places,b9 m x.act=true/\iv m (bv m x.act)=true
 yJ:cu id p.bI=true
 bI:∀o∈p.bI,iv m o=true/\∀x∈p.places,bv m x.act≠o
def l6:dD m p=true↔la m p:=by
 unfold dD Df iR Dg;simp only[Bool.and_eq_true,decide_eq_true_eq,List.all_eq_true,Bool.not_eq_true',<- Bool.not_eq_true,List.any_eq_true,not_exists,not_and];constructor
 ·rintro⟨⟨h1,h2⟩,⟨⟨h3,h4⟩,v,y⟩,⟨z,D⟩,G,u⟩;exact⟨h1,h2,h3,h4,v,y,z,D,G,u⟩
 ·rintro⟨h1,h2,h3,h4,v,y,z,D,G,u⟩;exact⟨⟨h1,h2⟩,⟨⟨h3,h4⟩,v,y⟩,⟨z,D⟩,G,u⟩
structure ld (m:Md) (L:Lck):Prop where
 a0:0<=L.a
 ab:L.a<=L.b
 b:L.b <m.ops.length
 JZ:mR m L=true
 J0:cu Mem.act L.mem=true
 mem:∀x∈L.mem,b9 m x.act=true/\(bv m x.act=L.a\/bv m x.act=L.b)
def sq:gv m L=true↔ld m L:=by
 unfold gv iR;simp only[Bool.and_eq_true,decide_eq_true_eq,List.all_eq_true,Bool.or_eq_true];constructor
 ·rintro⟨⟨h1,h2,h3⟩,h4,u,v⟩;exact⟨h1,h2,h3,h4,u,v⟩
 ·rintro⟨h1,h2,h3,h4,u,v⟩;exact⟨⟨h1,h2,h3⟩,h4,u,v⟩
def J1:gw L k=true↔∃x∈L.mem,x.act=k:=by
 unfold gw;simp only[List.any_eq_true,decide_eq_true_eq]
def J2:gU p k=true↔∃x∈p.places,x.act=k:=by
 unfold gU;simp only[List.any_eq_true,decide_eq_true_eq]
def ld.part(h:ld m L)(hp:gw L k=true):b9 m k=true/\(bv m k=L.a\/bv m k=L.b):=by
 obtain⟨x,u,rfl⟩:=J1.1 hp;exact h.mem x u
def la.J3(h:la m p)(hp:gU p k=true):b9 m k=true/\iv m (bv m k)=true:=by
 obtain⟨x,u,rfl⟩:=J2.1 hp;exact h.place x u
def ld.write(h:ld m L)(hp:gw L k=true):(decide (L.a=L.b)||decide (bv m k=L.b))=l5 m L k:=by
 have:=(h.part hp).2;unfold l5;by_cases h1:L.a=L.b
 ·have:bv m k=L.b:=by omega
  simp[this]
 ·simp[h1]
def ld.yK(h:ld m L):(L.pa= -1/\L.pb= -1)\/((0<=L.pa/\L.pa <(eX m L.a).ak.length)/\(0<=L.pb/\L.pb <(eX m L.b).ak.length)/\(eX m L.a).ak.getD L.pa.toNat 0=(eX m L.b).ak.getD L.pb.toNat 0/\0<=(eX m L.a).ak.getD L.pa.toNat 0/\jq m L.a L.pa=(eX m L.a).ak.getD L.pa.toNat 0):=by
 have u:=h.JZ;unfold mR at u;simp only[Bool.or_eq_true,Bool.and_eq_true,decide_eq_true_eq]at u;rcases u with u|⟨h1,h2,_⟩
 ·exact .inl u
 ·right
  unfold jq at h1 h2⊢;split at h1
  ·rename_i v;rw[if_pos v]at h2⊢;split at h2
   ·rename_i y;exact⟨v,y,h2,h1,rfl⟩
   ·omega
  ·omega
def ld.elem(h:ld m L):jW m L k=(if(if bv m k=L.a then L.pa else L.pb)<0 then 0 else k_ m k (if bv m k=L.a then L.pa else L.pb)):=by
 unfold jW;rcases h.yK with⟨h1,h2⟩|⟨⟨h1,_⟩,⟨h2,_⟩,_⟩
 ·rw[h1,h2];simp
 ·have v:¬L.pa <0:=by omega
  have y:¬L.pb <0:=by omega
  by_cases u:bv m k=L.a
  ·simp only[u,if_true,v,if_false]
  ·simp only[u,if_false,v,y]
def yL(h:cm m=true){a:eD}{i:Nat}(ha:m.ay[i]?=some a):dB m (bx m.ak m.tables true).length i a=true:=by
 unfold cm pg at h;simp only[Bool.and_eq_true]at h;exact gQ.1 h.2.2.1.2 i a ha
def ju:b9 m k=true↔0<=k/\k <m.ay.length:=by
 unfold b9;simp only[Bool.and_eq_true,decide_eq_true_eq]
def getD_some{α:Type}{l:List α}{i:Nat}{z:α}(h:i <l.length):l[i]?=some (l.getD i z):=by
 rw[List.getD_eq_getElem?_getD,List.getElem?_eq_getElem h];rfl
def ss(h:b9 m k=true):m.ay[k.toNat]?=some (m.ay.getD k.toNat fk):=getD_some (by have:=ju.1 h;omega)
def Dj(h:cm m=true)(hk:b9 m k=true){i:Int}(hi:0<=i)(hl:i <(eX m (bv m k)).ak.length)(hs:0<=(eX m (bv m k)).ak.getD i.toNat 0):0<=k_ m k i/\k_ m k i <m.ak.getD ((eX m (bv m k)).ak.getD i.toNat 0).toNat 0:=by
 have v:=yL h (ss hk);unfold dB at v;simp only[Bool.and_eq_true,decide_eq_true_eq]at v;have y:=v.1.1.2
 have u:=gQ.1 v.1.2 i.toNat (k_ m k i) (by
  unfold k_;exact getD_some (by unfold eX bv at hl;omega))
 unfold jS at u;have e:(m.ops.getD (m.ay.getD k.toNat fk).op.toNat si).ak.getD i.toNat 0=(eX m (bv m k)).ak.getD i.toNat 0:=rfl;rw[e,if_neg (by omega)]at u;simpa using u
def J4(h:cm m=true)(z:ld m L)(hp:gw L k=true):0<=jW m L k/\jW m L k <yG m L:=by
 obtain⟨D,I⟩:=z.part hp;unfold jW yG;rcases z.yK with⟨h1,h2⟩|⟨⟨h1,u⟩,⟨h2,v⟩,h3,h4,G⟩
 ·have y:L.pa <0:=by omega
  simp only[y,if_true];omega
 ·have y:¬L.pa <0:=by omega
  simp only[y,if_false];rw[G];split
  ·rename_i e;have:=Dj h D h1 (by rw[e];exact u) (by rw[e];exact h4);rw[e]at this;exact this
  ·rename_i e;have e:bv m k=L.b:=by omega
   have:=Dj h D h2 (by rw[e];exact v) (by rw[e,<- h3];exact h4);rw[e,<- h3]at this;exact this
theorem Dk:∀{l:List Lck} {i:Nat} {x:cP},x∈eh m k R i l↔∃(j:Nat) (L:Lck),l[j]?=some L/\gw L k=true/\x=⟨1,((i+j:Nat):Int),jW m L k,if l5 m L k=true then R else 1⟩
 |[],i,x=>by simp[eh]
 |L::l,i,x=>by
  have e:x∈eh m k R i (L::l)↔(gw L k=true/\x=⟨1,(i:Int),jW m L k,if l5 m L k=true then R else 1⟩)\/x∈eh m k R (i+1) l:=by
   rw[eh];split <;>simp[*]
  rw[e,Dk (l:=l) (i:=i+1)];constructor
  ·rintro(⟨h1,h2⟩|⟨j,M,h1,h2,h3⟩)
   ·exact⟨0,L,rfl,h1,h2⟩
   ·exact⟨j+1,M,by simpa using h1,h2,by rw[h3,show i+1+j=i+(j+1) by omega]⟩
  ·rintro⟨j,M,h1,h2,h3⟩
   cases j with
   |zero=>cases h1;exact .inl ⟨h2,h3⟩
   |succ j=>exact .inr ⟨j,M,by simpa using h1,h2,by rw[h3,show i+1+j=i+(j+1) by omega]⟩
theorem yM{s:Int}:∀{l:List cn} {i:Nat} {x:cP},x∈bK m k s i l↔∃(j:Nat) (y:cn),l[j]?=some y/\0 <s*eY m k (rowOf m y)/\x=⟨0,((i+j:Nat):Int),0,s*eY m k (rowOf m y)⟩
 |[],i,x=>by simp[bK]
 |y::l,i,x=>by
  have e:x∈bK m k s i (y::l)↔(0 <s*eY m k (rowOf m y)/\x=⟨0,(i:Int),0,s*eY m k (rowOf m y)⟩)\/x∈bK m k s (i+1) l:=by
   rw[bK];split <;>simp[*]
  rw[e,yM (l:=l) (i:=i+1)];constructor
  ·rintro(⟨h1,h2⟩|⟨j,z,h1,h2,h3⟩)
   ·exact⟨0,y,rfl,h1,h2⟩
   ·exact⟨j+1,z,by simpa using h1,h2,by rw[h3,show i+1+j=i+(j+1) by omega]⟩
  ·rintro⟨j,z,h1,h2,h3⟩
   cases j with
   |zero=>cases h1;exact .inl ⟨h2,h3⟩
   |succ j=>exact .inr ⟨j,z,by simpa using h1,h2,by rw[h3,show i+1+j=i+(j+1) by omega]⟩
def la.Dl(h:la m p)(D:2<=R){x:cP}(hx:x∈cJ m p e R)(hk:x.k=1):∃(j:Nat) (L:Lck),p.aR[j]?=some L/\x.i=(j:Int)/\gw L e=true/\l5 m L e=decide (x.n=R)/\x.el=jW m L e/\0<=x.el/\x.el <yG m L:=by
 unfold cJ at hx;rcases List.mem_append.1 hx with hx|hx
 ·obtain⟨j,z,_,_,rfl⟩:=yM.1 hx;cases hk
 ·obtain⟨j,L,u,v,rfl⟩:=Dk.1 hx;have y:=sq.1 (h.lock L (List.mem_of_getElem? u));have:=J4 h.lc y v;refine⟨j,L,u,by simp,v,?_,rfl,this.1,this.2⟩;show l5 m L e=decide ((if l5 m L e=true then R else 1)=R)
  cases l5 m L e with
  |true=>simp
  |false=>simp;omega
end
def su(d:List bD)(c:Int):Int:=d.foldl (fun n x=>if x.cell=c then n+x.add else n) 0
def qA(s:List Int)(d:List bD):List Int:=(List.range s.length).map fun i=>s.getD i 0+su d i
def J5{s:List Int}{d:List bD}{i:Nat}(h:i <s.length):(qA s d).getD i 0=s.getD i 0+su d i:=by
 unfold qA;rw[List.getD_eq_getElem?_getD,List.getElem?_map,List.getElem?_range h];rfl
theorem Dm{c:Int}:∀(d:List bD) (a:Int),(∀x∈d,x.cell≠c)->d.foldl (fun n x=>if x.cell=c then n+x.add else n) a=a
 |[],a,_=>rfl
 |x::d,a,h=>by
  rw[List.foldl_cons,if_neg (h x (by simp))];exact Dm d a fun y u=>h y (by simp[u])
def Dn(x:bD)(d:List bD)(c:Int):eg (x::d) c=if x.cell=c then x.add else eg d c:=by
 unfold eg;rw[List.find?_cons];by_cases h:x.cell=c <;>simp[h]
theorem Do:∀{d:List bD} {c:Int},d.Pairwise (fun y x=>y.cell <x.cell)->su d c=eg d c
 |[],c,_=>rfl
 |x::d,c,h=>by
  rw[List.pairwise_cons]at h;rw[Dn];by_cases u:x.cell=c
  ·rw[if_pos u];unfold su;rw[List.foldl_cons,if_pos u,Dm _ _ fun y v=>by have:=h.1 y v;omega];omega
  ·rw[if_neg u,<- Do h.2];unfold su;rw[List.foldl_cons,if_neg u]
def J6(d:List bD)(c:Int):eg d c=0\/∃x∈d,x.cell=c/\eg d c=x.add:=by
 unfold eg
 cases u:d.find? (fun x=>decide (x.cell=c))with
 |none=>exact .inl rfl
 |some x=>exact .inr ⟨x,List.mem_of_find?_eq_some u,by simpa using List.find?_some u,rfl⟩
section
variable {m:Md} {p:Pln} {e f k R:Int} {L:Lck}
def yN(h:cm m=true)(hk:b9 m k=true):allI (eV (bx m.ak m.tables true).length (m.ay.getD k.toNat fk).eff.delta) (m.ay.getD k.toNat fk).eff.delta=true:=by
 have u:=yL h (ss hk);unfold dB kW at u;simp only[Bool.and_eq_true]at u;exact u.2.2.1.1
def J7{n:Int}{d:List bD}(h:allI (eV n d) d=true):d.Pairwise fun y x=>y.cell <x.cell:=by
 refine(so (f:=bD.cell)).1 ?_;unfold cu;rw[gQ]at h⊢;intro i x u;have:=h i x u;unfold eV at this;simp only[Bool.and_eq_true,Bool.or_eq_true,decide_eq_true_eq]at this
 cases i with
 |zero=>simp
 |succ i=>
  have v:i+1 <d.length:=(List.getElem?_eq_some_iff.1 u).1;have z:d[i]?=some (d.getD i ⟨0,0⟩):=getD_some (by omega);rw[Nat.add_sub_cancel,z];have h2:=this.2.1;rw[Nat.add_sub_cancel]at h2;rcases h2 with h2|h2
  ·omega
  ·simpa using h2
def J8{n:Int}{l:List Tm}(h:allI (fj n l) l=true):l.Pairwise fun y x=>y.cell <x.cell:=by
 refine(so (f:=Tm.cell)).1 ?_;unfold cu;rw[gQ]at h⊢;intro i x u;have:=h i x u;unfold fj at this;simp only[Bool.and_eq_true,Bool.or_eq_true,decide_eq_true_eq]at this
 cases i with
 |zero=>simp
 |succ i=>
  have v:i+1 <l.length:=(List.getElem?_eq_some_iff.1 u).1;have z:l[i]?=some (l.getD i ⟨0,0⟩):=getD_some (by omega);rw[Nat.add_sub_cancel,z];have h2:=this.2.1;rw[Nat.add_sub_cancel]at h2;rcases h2 with h2|h2
  ·omega
  ·simpa using h2
def sw{n:Int}{l:List Tm}(h:allI (fj n l) l=true){t:Tm}(ht:t∈l):(0<=t.cell/\t.cell <n)/\(-1000<=t.bN/\t.bN<=1000):=by
 obtain⟨i,u⟩:=List.mem_iff_getElem?.1 ht;have:=gQ.1 h i t u;unfold fj cE at this;simp only[Bool.and_eq_true,decide_eq_true_eq]at this;exact⟨this.1,this.2.2.2⟩
def J9{n:Int}{l:List bD}(h:allI (eV n l) l=true){t:bD}(ht:t∈l):(0<=t.cell/\t.cell <n)/\(-1000000000<=t.add/\t.add<=1000000000):=by
 obtain⟨i,u⟩:=List.mem_iff_getElem?.1 ht;have:=gQ.1 h i t u;unfold eV cE at this;simp only[Bool.and_eq_true,decide_eq_true_eq]at this;exact⟨this.1,this.2.2.2⟩
def J_{n:Int}{d:List bD}(h:allI (eV n d) d=true)(c:Int): -1000000000<=eg d c/\eg d c<=1000000000:=by
 rcases J6 d c with h1|⟨x,u,_,h1⟩
 ·omega
 ·rw[h1];exact(J9 h u).2
def uY{n:Nat}{l:List Tm}(h:allI (fj n l) l=true):l.length<=n:=by
 have:=yC n (l.map Tm.cell) (by
  have:=J8 h;rw[List.Nodup,List.pairwise_map];exact this.imp fun h=>Int.ne_of_lt h) (by
  intro x v;obtain⟨t,u,rfl⟩:=List.mem_map.1 v;exact(sw h u).1)
 simpa using this
def la.row(h:la m p){x:cn}(hx:x∈p.aw):cy (bx m.ak m.tables true).length (rowOf m x)=true:=by
 obtain⟨⟨h1,h2⟩,h3⟩:=h.aw x hx;have u:=h.lc;unfold cm kV at u;simp only[Bool.and_eq_true]at u;have:=gQ.1 u.2.1.2.2 x.cF.toNat _ (getD_some (z:=mM) (by omega));unfold jn at this;simp only[Bool.and_eq_true,Bool.or_eq_true,decide_eq_true_eq]at this;rcases this.2 with h4|h4
 ·exact h4.2.2.2
 ·omega
def mS{n:Int}{r:Rw}(h:cy n r=true):allI (fj n r.a_) r.a_=true:=by
 unfold cy at h;simp only[Bool.and_eq_true]at h;exact h.1
def Ka{n:Int}{r:Rw}(h:cy n r=true): -1000000000<=r.gP/\r.gP<=1000000000:=by
 unfold cy cE at h;simp only[Bool.and_eq_true,decide_eq_true_eq]at h;exact h.2
def Dp{a b A B:Int}(ha : -A<=a/\a<=A)(hb : -B<=b/\b<=B): -(A*B)<=a*b/\a*b<=A*B:=by
 have u:0<=A:=by omega
 have v:0<=B:=by omega
 have h:(a*b).natAbs<=(A*B).natAbs:=by
  rw[Int.natAbs_mul,Int.natAbs_mul];exact Nat.mul_le_mul (by omega) (by omega)
 have:0<=A*B:=Int.mul_nonneg u v;omega
def Dq{α:Type}{g:Int->α->Int}{B:Int}(z:0<=B){l:List α}(hg:∀n,∀x∈l,n - B<=g n x/\g n x<=n+B)(a:Int):a - B*l.length<=l.foldl g a/\l.foldl g a<=a+B*l.length:=by
 induction l generalizing a with
 |nil=>simp
 |cons x l v=>
  have h1:=hg a x (by simp);have h2:=v (fun n y u=>hg n y (by simp[u])) (g a x);rw[List.foldl_cons,List.length_cons]
  have e:B*((l.length+1:Nat):Int)=B*l.length+B:=by
   rw[Int.natCast_add,Int.mul_add];simp
  rw[e];omega
theorem uZ{s:Int}:∀(l:List cn) (i:Nat),(bK m k s i l).length=l.countP fun y=>decide (0 <s*eY m k (rowOf m y))
 |[],_=>rfl
 |y::l,i=>by
  rw[bK,List.countP_cons];split
  ·rename_i h;rw[List.length_cons,uZ l (i+1)];simp[h]
  ·rename_i h;rw[uZ l (i+1)];simp[h]
theorem u1:∀(l:List Lck) (i:Nat),(eh m k R i l).length=l.countP fun L=>gw L k
 |[],_=>rfl
 |L::l,i=>by
  rw[eh,List.countP_cons];split
  ·rename_i h;rw[List.length_cons,u1 l (i+1)]
  ·rename_i h;rw[u1 l (i+1)];simp[h]
structure qB (q p:Pln):Prop where
 aw:q.aw.Sublist p.aw
 aR:q.aR.Sublist p.aR
 places:q.places.Sublist p.places
 bI:q.bI=p.bI
def qB.ok{q:Pln}(hq:qB q p)(h:la m p):la m q where
 lc:=h.lc
 fo:=Nat.le_trans hq.aR.length_le h.fo
 yI:=yH hq.aw h.yI
 aw:=fun x u=>h.aw x (hq.aw.subset u)
 lock:=fun L y=>h.lock L (hq.aR.subset y)
 Dh:=yH hq.aR h.Dh
 Di:=yH hq.places h.Di
 place:=fun x u=>h.place x (hq.places.subset u)
 yJ:=by rw[hq.bI];exact h.yJ
 bI:=fun o v=>by rw[hq.bI]at v;exact⟨(h.bI o v).1,fun x u=>(h.bI o v).2 x (hq.places.subset u)⟩
def qB.Kb{q:Pln}(hq:qB q p):(cJ m q k R).length<=(cJ m p k R).length:=by
 unfold cJ;rw[List.length_append,List.length_append,uZ,uZ,u1,u1];exact Nat.add_le_add (hq.aw.countP_le) (hq.aR.countP_le)
def qB.J3{q:Pln}(hq:qB q p)(h:gU q k=true):gU p k=true:=JY hq.places h
end
def dc{α:Type}(f:α->Int)(l:List α):Nat->Int
 |0=> -1
 |i+1=>match l[i]? with
  |some y=>f y
  |none=> -1
def Kc{α:Type}{f:α->Int}{g:α->Bool}{l:List α}:allI (fun i x=>decide (dc f l i <f x)&&g x) l=(cu f l&&l.all fun x=>decide (0<=f x)&&g x):=by
 rw[Bool.eq_iff_iff,Bool.and_eq_true,gQ];unfold cu;rw[gQ,List.all_eq_true];constructor
 ·intro h
  have h1:∀(i:Nat) (x:α),l[i]?=some x->0<=f x:=by
   intro i
   induction i with
   |zero=>
    intro x u;have:=h 0 x u;rw[Bool.and_eq_true,decide_eq_true_eq]at this;have h2:(-1:Int)<f x:=this.1;omega
   |succ i D=>
    intro x u;have y:i+1 <l.length:=(List.getElem?_eq_some_iff.1 u).1;have v:l[i]?=some l[i]:=List.getElem?_eq_getElem (by omega);have:=h (i+1) x u;rw[Bool.and_eq_true,decide_eq_true_eq]at this;have h2:=this.1;simp only[dc,v]at h2;have:=D _ v;omega
  refine⟨fun i x u=>?_,fun x u=>?_⟩
  ·cases i with
   |zero=>rfl
   |succ i=>
    have y:i+1 <l.length:=(List.getElem?_eq_some_iff.1 u).1;have v:l[i]?=some l[i]:=List.getElem?_eq_getElem (by omega);have:=h (i+1) x u;rw[Bool.and_eq_true,decide_eq_true_eq]at this;have h2:=this.1;simp only[dc,v]at h2;rw[Nat.add_sub_cancel,v];simp[h2]
  ·obtain⟨i,z⟩:=List.mem_iff_getElem?.1 u;have:=h i x z;rw[Bool.and_eq_true]at this⊢;exact⟨decide_eq_true (h1 i x z),this.2⟩
 ·rintro⟨h1,h2⟩ i x u;have h3:=h2 x (List.mem_of_getElem? u);rw[Bool.and_eq_true,decide_eq_true_eq]at h3⊢;refine⟨?_,h3.2⟩
  cases i with
  |zero=>show(-1:Int)<f x;omega
  |succ i=>
   have y:i+1 <l.length:=(List.getElem?_eq_some_iff.1 u).1;have v:l[i]?=some l[i]:=List.getElem?_eq_getElem (by omega);have:=h1 (i+1) x u;rw[Nat.add_sub_cancel,v]at this;simp only[dc,v];simpa using this
section
variable {m:Md} {p:Pln}
def yI(m:Md)(l:List cn):Bool:=allI (fun(i:Nat) (x:cn)=>decide (dc cn.cF l i <x.cF)&&(decide (x.cF <m.cons.length)&&decide ((m.cons.getD x.cF.toNat mM).kind=0))) l
def Kd(h:cm m=true):m.ops.length<=8:=by
 unfold cm pg at h;simp only[Bool.and_eq_true,decide_eq_true_eq]at h;exact h.2.2.1.1.2.1
def Ke(m:Md)(p:Pln)(o:Int):Bool:=!m.ay.zipIdx.any fun a=>decide (a.1.op=o)&&gU p (a.2:Int)
def yJ(m:Md)(p:Pln):Bool:=allI (fun(i:Nat) (o:Int)=>decide (dc id p.bI i <o)&&((decide (o <m.ops.length)&&(eX m o).ord)&&Ke m p o)) p.bI
end
def lf(m:Md)(l:List (Int×Int))(i:Nat)(c:Cn):Bool:=
 (decide (0<=c.jR)&&decide (c.jR <m.bw.length))&&((if c.kind=0 then decide (c.first=0)&&(decide (c.size=0)&&cy l.length c.row)else decide (c.kind=1)&&jm m c)&&
  (match l[i/2]? with|some r=>decide (c.kind=0)&&decide (c.row=if i %2=0 then mL (i/2) r else pf (i/2) r)|none=>true))
def qC(m:Md)(l:List (Int×Int)):Bool:=(decide (m.cons.length<=512)&&decide (2*l.length<=m.cons.length))&&allI (lf m l) m.cons
def u2{α:Type}{l:List α}{i:Nat}{x z:α}(h:l[i]?=some x):l.getD i z=x:=by rw[List.getD_eq_getElem?_getD,h];rfl
def Kf(m:Md)(l:List (Int×Int)):qC m l=kV m l:=by
 unfold qC kV;rw[Bool.and_comm (decide (m.cons.length<=512))];by_cases I:2*l.length<=m.cons.length
 ·by_cases J:m.cons.length<=512
  ·simp only[I,J,decide_true,Bool.true_and];rw[Bool.eq_iff_iff,Bool.and_eq_true,gQ,gQ,gQ];constructor
   ·intro h;refine⟨fun i r y=>?_,fun i c u=>?_⟩
    ·have Z:i <l.length:=(List.getElem?_eq_some_iff.1 y).1;obtain⟨c,u⟩:∃c,m.cons[2*i]?=some c:=⟨_,List.getElem?_eq_getElem (by omega)⟩;obtain⟨d,hd⟩:∃d,m.cons[2*i+1]?=some d:=⟨_,List.getElem?_eq_getElem (by omega)⟩;have h1:=h _ c u;have h2:=h _ d hd;unfold lf at h1 h2;rw[show 2*i/2=i by omega,show 2*i %2=0 by omega,y]at h1;rw[show(2*i+1) /2=i by omega,show(2*i+1) %2=1 by omega,y]at h2;simp only[Bool.and_eq_true,decide_eq_true_eq,if_true]at h1 h2;unfold lY;rw[u2 u,u2 hd,h1.2.2.2,h2.2.2.2];simp
    ·have h1:=h i c u;unfold lf at h1;unfold jn;rw[Bool.and_eq_true]at h1⊢;refine⟨h1.1,?_⟩;have h2:=h1.2;rw[Bool.and_eq_true]at h2;by_cases v:c.kind=0
     ·rw[if_pos v]at h2;rw[h2.1,v];simp
     ·rw[if_neg v]at h2
      have:2*l.length<=i:=by
       rcases Nat.lt_or_ge i (2*l.length)with ab|D
       ·have U:=h2.2;rw[List.getElem?_eq_getElem (show i/2 <l.length by omega)]at U;simp[v]at U
       ·exact D
      simp only[this,decide_true,Bool.true_and,h2.1,Bool.or_true]
   ·rintro⟨hp,ho⟩ i c u;have h1:=ho i c u;unfold jn at h1;unfold lf;rw[Bool.and_eq_true]at h1⊢;refine⟨h1.1,?_⟩;have h2:=h1.2;simp only[Bool.or_eq_true,Bool.and_eq_true,decide_eq_true_eq]at h2;rw[Bool.and_eq_true];constructor
    ·rcases h2 with⟨h3,h4⟩|⟨h3,h4,V⟩
     ·rw[if_pos h3];simp only[Bool.and_eq_true,decide_eq_true_eq];exact h4
     ·rw[if_neg (by omega),V,h4];rfl
    ·cases y:l[i/2]? with
     |none=>rfl
     |some r=>
      have Z:i/2 <l.length:=(List.getElem?_eq_some_iff.1 y).1;have z:=hp _ r y;unfold lY at z;rw[Bool.and_eq_true,decide_eq_true_eq,decide_eq_true_eq]at z
      have v:c.kind=0:=by
       rcases h2 with⟨h3,_⟩|⟨h3,_⟩
       ·exact h3
       ·omega
      simp only[v,decide_true,Bool.true_and,decide_eq_true_eq];by_cases G:i %2=0
      ·rw[if_pos G,<- z.1,show 2*(i/2)=i by omega,u2 u]
      ·rw[if_neg G,<- z.2,show 2*(i/2)+1=i by omega,u2 u]
  ·simp only[J,decide_false,Bool.and_false,Bool.false_and]
 ·simp only[I,decide_false,Bool.false_and]
def cmpL:List Int->List Int->Int
 |x::a,y::b=>if x <y then -1 else if y <x then 1 else cmpL a b
 |[],[]=>0
 |[],_::_=> -1
 |_::_,[]=>1
theorem Dr:∀(a b:List Int),decide (cmpL a b <0)=iu a b
 |[],[]=>rfl
 |[],_::_=>rfl
 |_::_,[]=>rfl
 |x::a,y::b=>by
  unfold cmpL iu;by_cases h1:x <y
  ·rw[if_pos h1,if_neg (by omega)];simp[h1]
  ·rw[if_neg h1];by_cases h2:y <x
   ·rw[if_pos h2,if_neg (by omega)];simp[h1]
   ·rw[if_neg h2,if_pos (by omega)];exact Dr a b
def iw(u v:List Int):Bool:=decide (v.length<=3)&&v.all (cg u)
def qD(t:Tb):Bool:=if t.kind=1\/t.kind=4\/t.kind=5 then decide (t.lo<=t.hi)&&(decide (-9999<=t.lo)&&decide (t.hi<=9999))else decide (t.lo=0)&&decide (t.hi=1)
def lg(v:List Int)(l:List Tb)(i:Nat)(t:Tb):Bool:=
 (fR t.name&&(!((l.take i).any fun u=>decide (u.name=t.name))&&((decide (0<=t.kind)&&decide (t.kind<=5))&&(iw v t.au&&qD t))))&&decide (t.first=bn v (bp t.kind) (l.take i))
def yO{u v:List Int}(hs:ce u=true)(hc:iw u v=true):bE u v=cU u v:=by
 unfold iw at hc;unfold bE;rw[Bool.and_eq_true]at hc;rw[if_pos (by rw[hs,hc.1,hc.2];rfl)]
def Kg{u y:List Int}(hs:ce u=true):(!decide (bE u y=0))=iw u y:=by
 cases v:iw u y with
 |true=>
  rw[yO hs v];unfold iw at v;rw[Bool.and_eq_true,decide_eq_true_eq]at v;have:=(lZ hs v.2 (by omega)).1;simp;omega
 |false=>
  unfold bE;unfold iw at v;rw[if_neg]
  ·rfl
  ·rw[Bool.and_eq_true,Bool.and_eq_true];rintro⟨⟨h1,_⟩,h2⟩;rw[h1,h2]at v;cases v
def Kh{t:Tb}(h0:0<=t.kind)(u:t.kind<=5):qD t=qq t:=by
 have:t.kind=0\/t.kind=1\/t.kind=2\/t.kind=3\/t.kind=4\/t.kind=5:=by omega
 unfold qD qq;rw[Bool.eq_iff_iff];rcases this with e|e|e|e|e|e <;>rw[e]<;>simp <;>omega
def Ki{v:List Int}{l:List Tb}{i:Nat}{t:Tb}(hs:ce v=true):lg v l i t=gS v l i t:=by
 unfold lg gS;rw[Kg hs];by_cases y:0<=t.kind/\t.kind<=5
 ·rw[Kh y.1 y.2];cases fR t.name <;>cases(!(l.take i).any fun u=>decide (u.name=t.name))<;>cases(decide (0<=t.kind)&&decide (t.kind<=5))<;>cases iw v t.au <;>cases qq t <;>cases decide (t.first=bn v (bp t.kind) (l.take i))<;>rfl
 ·have:(decide (0<=t.kind)&&decide (t.kind<=5))=false:=by
   rw[<- Bool.not_eq_true,Bool.and_eq_true,decide_eq_true_eq,decide_eq_true_eq];exact y
  rw[this];cases fR t.name <;>cases(!(l.take i).any fun u=>decide (u.name=t.name))<;>rfl
def u3{α:Type}{p q:Nat->α->Bool}{l:List α}(h:∀i x,p i x=q i x):allI p l=allI q l:=by
 have:p=q:=funext fun i=>funext fun x=>h i x;rw[this]
def sx(u:List Int)(l:List Tb):Bool:=(decide (u.length<=4)&&(decide (l.length<=12)&&ce u))&&(allI (lg u l) l&&(decide (bn u true l<=128)&&decide (bn u false l<=64)))
def u4(u:List Int)(l:List Tb):sx u l=bH u l:=by
 unfold sx bH
 cases hs:ce u with
 |true=>
  rw[u3 (p:=lg u l) (q:=gS u l) fun i x=>Ki hs];cases decide (u.length<=4)<;>cases decide (l.length<=12)<;>rfl
 |false=>cases decide (u.length<=4)<;>cases decide (l.length<=12)<;>rfl
def Dt{u:List Int}{l:List Tb}{q:Nat}{t:Tb}{s:Bool}(hs:ce u=true)(hc:iw u t.au=true)(h:l[q]?=some t):bn u s (l.take (q+1))=if bp t.kind=s then bn u s (l.take q)+cU u t.au else bn u s (l.take q):=by
 rw[qu s h,yO hs hc]
def qE(m:Md):Bool:=(sx m.ak m.tables&&(decide (m.bw.length<=24)&&gu m.bw))&&
 (qC m (bx m.ak m.tables true)&&(((decide ((m.ops.map (·.name)).length<=8)&&gu (m.ops.map (·.name)))&&m.ops.all (dU m))&&((decide (m.ay.length<=256)&&allI (dB m (bx m.ak m.tables true).length) m.ay)&&fS m)))
def Kj(m:Md):qE m=cm m:=by
 unfold qE cm pg;rw[u4,Kf,List.length_map];cases bH m.ak m.tables <;>cases decide (m.bw.length<=24)<;>cases gu m.bw <;>cases kV m (bx m.ak m.tables true)<;>cases m.ops.all (dU m)<;>cases decide (m.ops.length<=8)<;>cases gu (m.ops.map (·.name))<;>cases decide (m.ay.length<=256)<;>rfl
def yP{α:Type}{f:α->Int}{z:α}{g:α->Bool}{l:List α}:allI (fun i x=>(decide (0<=f x)&&(decide (i=0)||decide (f (l.getD (i - 1) z)<f x)))&&g x) l=allI (fun i x=>decide (dc f l i <f x)&&g x) l:=by
 rw[Kc];rw[Bool.eq_iff_iff,Bool.and_eq_true,gQ];unfold cu;rw[gQ,List.all_eq_true]
 have v:∀(i:Nat) (x:α),l[i]?=some x->(decide (i=0)||decide (f (l.getD (i - 1) z)<f x))=(decide (i=0)||match l[i - 1]? with|some y=>decide (f y <f x)|none=>false):=by
  intro i x u
  cases i with
  |zero=>rfl
  |succ i=>
   have G:i+1 <l.length:=(List.getElem?_eq_some_iff.1 u).1;have I:l[i]?=some l[i]:=List.getElem?_eq_getElem (by omega);rw[Nat.add_sub_cancel,List.getD_eq_getElem?_getD,I];rfl
 constructor
 ·intro h;refine⟨fun i x u=>?_,fun x u=>?_⟩
  ·have h1:=h i x u;simp only[Bool.and_eq_true]at h1;have h2:=v i x u;show(decide (i=0)||match l[i - 1]? with|some y=>decide (f y <f x)|none=>false)=true
   rw[<- h2];exact h1.1.2
  ·obtain⟨i,D⟩:=List.mem_iff_getElem?.1 u;have h1:=h i x D;simp only[Bool.and_eq_true]at h1;rw[Bool.and_eq_true];exact⟨h1.1.1,h1.2⟩
 ·rintro⟨h1,h2⟩ i x u;have h3:=h2 x (List.mem_of_getElem? u);rw[Bool.and_eq_true]at h3;show((decide (0<=f x)&&(decide (i=0)||decide (f (l.getD (i - 1) z)<f x)))&&g x)=true
  rw[Bool.and_eq_true,Bool.and_eq_true];exact⟨⟨h3.1,by rw[v i x u];exact h1 i x u⟩,h3.2⟩
def nR(n:Int)(l:List Tm)(i:Nat)(t:Tm):Bool:=decide (dc Tm.cell l i <t.cell)&&(decide (t.cell <n)&&(!decide (t.bN=0)&&cE t.bN 1000))
def Kk(n:Int)(l:List Tm):allI (nR n l) l=allI (fj n l) l:=by
 have:=yP (f:=Tm.cell) (z:=⟨0,0⟩) (g:=fun t=>decide (t.cell <n)&&(!decide (t.bN=0)&&cE t.bN 1000)) (l:=l);show allI (fun i t=>decide (dc Tm.cell l i <t.cell)&&(decide (t.cell <n)&&(!decide (t.bN=0)&&cE t.bN 1000))) l=_
 rw[<- this];refine u3 fun i t=>?_;unfold fj;cases decide (0<=t.cell)<;>cases decide (t.cell <n)<;>cases(decide (i=0)||decide ((l.getD (i - 1) ⟨0,0⟩).cell <t.cell))<;>rfl
def mT(n:Int)(l:List bD)(i:Nat)(t:bD):Bool:=decide (dc bD.cell l i <t.cell)&&(decide (t.cell <n)&&(!decide (t.add=0)&&cE t.add 1000000000))
def Kl(n:Int)(l:List bD):allI (mT n l) l=allI (eV n l) l:=by
 have:=yP (f:=bD.cell) (z:=⟨0,0⟩) (g:=fun t=>decide (t.cell <n)&&(!decide (t.add=0)&&cE t.add 1000000000)) (l:=l);show allI (fun i t=>decide (dc bD.cell l i <t.cell)&&(decide (t.cell <n)&&(!decide (t.add=0)&&cE t.add 1000000000))) l=_
 rw[<- this];refine u3 fun i t=>?_;unfold eV;cases decide (0<=t.cell)<;>cases decide (t.cell <n)<;>cases(decide (i=0)||decide ((l.getD (i - 1) ⟨0,0⟩).cell <t.cell))<;>rfl
def nS(m:Md)(u:cD):Bool:=match eU m.ak m.tables false u.cell with
 |some (_,t)=>mN u t
 |none=>false
theorem yQ{f:Tb->Bool}:∀{i:Nat} {l:List Tb} {r:Nat×Tb},fF f i l=some r->f r.2=true
 |_,[],_,h=>by cases h
 |i,t::l,r,h=>by
  unfold fF at h;split at h
  ·cases h;assumption
  ·exact yQ h
def Km{S:List Int}{L:List Tb}{s:Bool}{c:Int}{r:Nat×Tb}(h:eU S L s c=some r):0<=c:=by
 unfold eU at h;split at h
 ·have:=yQ h;unfold eF at this;simp only[Bool.and_eq_true,decide_eq_true_eq]at this;exact this.2.1
 ·cases h
def mU(m:Md)(l:List cD)(i:Nat)(u:cD):Bool:=decide (dc cD.cell l i <u.cell)&&nS m u
def Kn(m:Md)(l:List cD):allI (mU m l) l=allI (gr m l) l:=by
 have:=yP (f:=cD.cell) (z:=⟨0,0,0⟩) (g:=nS m) (l:=l);show allI (fun i u=>decide (dc cD.cell l i <u.cell)&&nS m u) l=_
 rw[<- this];refine u3 fun i u=>?_;unfold gr nS
 cases h:eU m.ak m.tables false u.cell with
 |none=>simp only[Bool.and_false]
 |some r=>
  have v:=Km h;rw[decide_eq_true v,Bool.true_and]
def yR(m:Md)(n:Int)(x:kU):Bool:=allI (mT n x.delta) x.delta&&(allI (mU m x.bZ) x.bZ&&(decide (x.hold.length<=8)&&(decide (x.bZ.length<=32)&&x.hold.all (cy n))))
def Ko(m:Md)(n:Int)(x:kU):yR m n x=kW m n x:=by
 unfold yR kW;rw[Kl,Kn];cases allI (eV n x.delta) x.delta <;>cases allI (gr m x.bZ) x.bZ <;>cases decide (x.hold.length<=8)<;>cases decide (x.bZ.length<=32)<;>cases x.hold.all (cy n)<;>rfl
end Go.Proofs.YtjolgbkkocjpgaaGreatDoor
