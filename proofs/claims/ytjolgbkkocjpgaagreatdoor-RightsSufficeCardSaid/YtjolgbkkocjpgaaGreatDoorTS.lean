/- The plain functions that the clocks' texts compute,with. No condition. -/
import Derived.Test.YtjolgbkkocjpgaaGreatDoorTBB
import Derived.Lib.ItoaNum
import Derived.Lib.Join
import Derived.Lib.AtoiTie
import Derived.Lib.SplitLaws
import Derived.Lib.Split
import Derived.Lib.Strings
import Derived.Lib.IndexLaws
import Derived.IntWalk
set_option linter.all false
namespace Go.Proofs.YtjolgbkkocjpgaaGreatDoor
def nN(n:Int):Bool:=decide (0<=n)&&decide (n<=1024)
def gK(xs:List Int):Bool:=xs.all nN&&decide (1<=xs.length)&&decide (xs.length<=5)
def Mj(p:Int×Int):Bool:=decide (p.1<=p.2)
def DI(a b:List Int):Bool:=(a.zip b).all Mj
def p4{α β:Type}(g:β->α->β)(b:β){l:List α}{k:Nat}{x:α}(h:l[k]?=some x):(l.take (k+1)).foldl g b=g ((l.take k).foldl g b) x:=by
 rw[List.take_add_one,h];simp[List.foldl_append]
def Bo(xs:List Int):Int:=xs.foldl (·+·) 0
def vl(xs:List Int):Int:=if gK xs then Bo xs else 0
def hasS(c:List Int)(r n:Int):Bool:=gK c&&(decide (0<=r)&&(decide (r <c.length)&&(decide (1<=n)&&decide (n<=c.getD r.toNat 0))))
def Ny{n:Int}(h:nN n=true):0<=n/\n<=1024:=by simp[nN]at h;omega
def Ak{xs:List Int}(h:gK xs=true){k:Nat}{n:Int}(hn:xs[k]?=some n):0<=n/\n<=1024:=by
 simp only[gK,Bool.and_eq_true,List.all_eq_true]at h;exact Ny (h.1.1 n (List.mem_of_getElem? hn))
structure Sp where
 r:Int
 f:Int
 t:Int
deriving DecidableEq
def fb{xs:List Int}{k:Nat}{n:Int}(h:xs[k]?=some n):xs.getD k 0=n:=by rw[List.getD_eq_getElem?_getD,h];rfl
def cO(n l h:Int):Bool:=decide (l<=n)&&decide (n<=h)
def jh(e:Ev):Bool:=gK e.past&&(cO e.r 0 ((e.past.length:Int) - 1)&&(decide (e.n=e.past.getD e.r.toNat 0+1)&&(decide (e.n<=1024)&&cO e.t 1 1073741824)))
def oI(e:Ev):Bool:=decide (e.gk=0)&&(decide (e.gi=0)&&(decide (e.ge=0)&&(decide (e.ga=0)&&decide (e.to=0))))
def oc(e:Ev):Bool:=cO e.a 0 255&&cO e.pl 0 1024&&cO e.se 1 1048576
def rS(e:Ev):Bool:=cO e.pl 1 1024&&cO e.se 1 1048576
def rv(e:Ev):Bool:=cO e.gk 0 1&&cO e.ge 0 (if e.gk=1 then 5 else 0)&&cO e.gi 0 1023&&cO e.ga 1 1000000&&cO e.to 0 ((e.past.length:Int) - 1)&&decide (e.to≠e.r)
def cW(e:Ev):Bool:=jh e&&(if e.k=0 then oc e&&oI e else if e.k=1 then rv e&&(decide (e.a=0)&&(decide (e.pl=0)&&decide (e.se=0)))else if e.k=2 then rS e&&(decide (e.a=0)&&oI e)else false)
open Go
def b_(b:UInt8):Bool:=decide (48<=b.toNat)&&decide (b.toNat<=57)
def J1(a:Nat)(l:List UInt8):Nat:=l.foldl (fun a b=>10*a+(b.toNat - 48)) a
def dv(l:List UInt8):Nat:=J1 0 l
structure Sf (e:Ev):Prop where
 vp:gK e.past=true
 r0:0<=e.r
 r1:e.r<=9999
 n0:0<=e.n
 n1:e.n<=9999
 t0:0<=e.t
 t1:e.t<=9999999999
 k:e.k=0\/e.k=1\/e.k=2
 k0:e.k=0->(0<=e.a/\e.a<=255/\0<=e.pl/\e.pl<=1024/\0<=e.se/\e.se<=1048576)/\e.gk=0/\e.gi=0/\e.ge=0/\e.ga=0/\e.to=0
 k2:e.k=2->(0<=e.pl/\e.pl<=1024/\0<=e.se/\e.se<=1048576)/\e.a=0/\e.gk=0/\e.gi=0/\e.ge=0/\e.ga=0/\e.to=0
 k1:e.k=1->((e.gk=0\/e.gk=1)/\0<=e.gi/\e.gi<=1023/\0<=e.ge/\e.ge<=5/\0<=e.ga/\e.ga<=1000000/\0<=e.to/\e.to<=9999)/\e.a=0/\e.pl=0/\e.se=0
def B8(l:List Int)(k:Nat):Int:=l.getD k 0
def pos(c:UInt8)(s:List UInt8):Nat:=(s.takeWhile fun b=>b !=c).length
def eO(b:UInt8):Bool:=decide (97<=b.toNat)&&decide (b.toNat<=122)
def dI(b:UInt8):Bool:=(decide (b.toNat=9)||decide (b.toNat=10))||(decide (b.toNat=13)||decide (b.toNat=32))
def cj(b:UInt8):Bool:=eO b ||(b_ b ||decide (b.toNat=95))
def aZ:Bool->List UInt8->Nat
 |_,[]=>0
 |true,b::r=>if b.toNat=10 then aZ false r+1 else aZ true r+1
 |false,b::r=>if dI b=true then aZ false r+1 else if b.toNat=35 then aZ true r+1 else 0
def aQ(p:UInt8->Bool):List UInt8->Nat
 |[]=>0
 |b::r=>if p b=true then aQ p r+1 else 0
def cZ:List (List UInt8):=[[115,111,114,116],[114,101,108,97,116,105,111,110],[99,111,117,110,116,101,114],[115,101,116],[114,101,103,105,115,116,101,114],[105,110,118,97,114,105,97,110,116],[111,112,101,114,97,116,105,111,110],[107,101,121],[114,101,102,101,114,101,110,99,101],[116,111],[99,111,117,110,116],[97,99,121,99,108,105,99],[97,108,108],[115,117,109],[105,110],[97,100,100,119,105,110,115],[114,101,109,111,118,101,119,105,110,115],[108,97,115,116],[109,117,108,116,105],[104,105,100,101],[111,114,100,101,114,101,100],[114,101,113,117,105,114,101],[104,111,108,100],[105,110,115,101,114,116],[100,101,108,101,116,101],[97,100,100],[102,114,111,109],[112,117,116],[100,114,111,112],[97,115,115,105,103,110],[102,111,114],[119,104,101,114,101],[97,110,100],[111,114],[110,111,116]]
def qF:List (List UInt8):=[[61,61],[33,61],[60,61],[62,61],[46,46],[60],[62],[61],[43],[45],[42],[40],[41],[123],[125],[44],[58],[59]]
def fk:List (List UInt8)->List UInt8->Nat
 |[],_=>0
 |s::r,t=>if s.length<=t.length/\t.take s.length=s then s.length else fk r t
def iy(t:List UInt8):Nat:=fk qF t
def eX:List UInt8->Nat
 |[]=>0
 |b::r=>if(dI b=false/\b.toNat≠35)/\(eO b=false/\b_ b=false/\iy (b::r)=0)then eX r+1 else 0
def fL:List UInt8->Int×Nat
 |[]=>(0,0)
 |b::r=>
  if eO b=true then(if(b::r).take (aQ cj (b::r))∈cZ then 2 else 1,aQ cj (b::r))
  else if b_ b=true then(3,aQ b_ (b::r))
  else if 0 <iy (b::r)then(4,iy (b::r))
  else(5,eX (b::r))
structure Tok where
 kind:Int
 zx:Nat
 at_:Nat
 rf:Nat
def jU(l:List UInt8):Nat->Nat->List Tok
 |0,_=>[]
 |f+1,q=>if q+aZ false (l.drop q)<l.length then⟨(fL (l.drop (q+aZ false (l.drop q)))).1,q,q+aZ false (l.drop q),q+aZ false (l.drop q)+(fL (l.drop (q+aZ false (l.drop q)))).2⟩::jU l f (q+aZ false (l.drop q)+(fL (l.drop (q+aZ false (l.drop q)))).2)else[⟨0,q,l.length,l.length⟩]
def qC(l:List UInt8):List Tok:=jU l (l.length+1) 0
def oL(l:List UInt8):Int:=if 4096 <l.length then 0 else match qC l with
 |[t,_]=>if t.at_=0/\t.rf=l.length then t.kind else 0
 |_=>0
def oU(l:List UInt8):Bool:=decide (oL l=1)&&decide (l.length<=16)
theorem sq:∀(c:Bool) (l:List UInt8),aZ c l<=l.length
 |_,[]=>by simp[aZ]
 |true,b::r=>by
  unfold aZ;have h1:=sq false r;have h2:=sq true r;split <;>simp <;>omega
 |false,b::r=>by
  unfold aZ;have h1:=sq false r;have h2:=sq true r;split
  ·simp;omega
  ·split <;>simp;omega
theorem sb(p:UInt8->Bool):∀(l:List UInt8),aQ p l<=l.length
 |[]=>by simp[aQ]
 |b::r=>by
  unfold aQ;have h1:=sb p r;split <;>simp;omega
theorem Bq:∀(S:List (List UInt8)) (t:List UInt8),fk S t<=t.length
 |[],_=>by simp[fk]
 |s::r,t=>by
  unfold fk;split
  ·rename_i h;exact h.1
  ·exact Bq r t
theorem HG:∀(l:List UInt8),eX l<=l.length
 |[]=>by simp[eX]
 |b::r=>by
  unfold eX;have h1:=HG r;split <;>simp;omega
def xZ(b:UInt8)(r:List UInt8):fL (b::r)=if eO b=true then(if(b::r).take (aQ cj (b::r))∈cZ then 2 else 1,aQ cj (b::r))else if b_ b=true then(3,aQ b_ (b::r))else if 0 <iy (b::r)then(4,iy (b::r))else(5,eX (b::r)):=by rw[fL]
def Rb(l:List UInt8):(fL l).2<=l.length:=by
 cases l with
 |nil=>simp[fL]
 |cons b r=>
  rw[xZ];split
  ·exact sb _ (b::r)
  ·split
   ·exact sb _ (b::r)
   ·split
    ·exact Bq _ (b::r)
    ·exact HG (b::r)
def GP:∀(l:List UInt8),∀b r,l.drop (aZ false l)=b::r->dI b=false/\b.toNat≠35
 |l=>by
  suffices H:∀(l:List UInt8) (c:Bool) b r,l.drop (aZ c l)=b::r->dI b=false/\b.toNat≠35 from H l false
  intro l
  induction l with
  |nil=>intro c b r h;simp[aZ]at h
  |cons x l u=>
   intro c b r h
   cases c with
   |true=>
    unfold aZ at h;split at h
    ·exact u false b r (by simpa using h)
    ·exact u true b r (by simpa using h)
   |false=>
    unfold aZ at h;split at h
    ·exact u false b r (by simpa using h)
    ·split at h
     ·exact u true b r (by simpa using h)
     ·rename_i h1 h2;rw[List.drop_zero,List.cons.injEq]at h;obtain⟨rfl,_⟩:=h;exact⟨by simpa using h1,h2⟩
def Re{b:UInt8}{r:List UInt8}(h1:dI b=false)(h2:b.toNat≠35):0 <(fL (b::r)).2:=by
 rw[xZ];split
 ·rename_i h;have:cj b=true:=by simp[cj,h]
  simp[aQ,this]
 ·split
  ·rename_i h;simp[aQ,h]
  ·split
   ·rename_i h;exact h
   ·rename_i h3 h4 u;have h3:eO b=false:=by simpa using h3
    have h4:b_ b=false:=by simpa using h4
    show 0 <eX (b::r)
    unfold eX;rw[if_pos ⟨⟨h1,h2⟩,h3,h4,by omega⟩];omega
section
variable {α:Type} {l:List α} {q:Nat} {x:α}
def bK(h:l[q]?=some x):l.drop q=x::l.drop (q+1):=by
 obtain⟨u,rfl⟩:=List.getElem?_eq_some_iff.1 h;exact List.drop_eq_getElem_cons u
def ez(h:l.length<=q):l.drop q=[]:=List.drop_of_length_le h
end
section
variable {l:List UInt8} {q:Nat} {b:UInt8}
def GQ(h:l[q]?=some b)(hw:dI b=true):aZ false (l.drop q)=aZ false (l.drop (q+1))+1:=by
 rw[bK h,aZ,if_pos hw]
def Qz(h:l[q]?=some b)(hw:dI b=false)(u:b.toNat=35):aZ false (l.drop q)=aZ true (l.drop (q+1))+1:=by
 rw[bK h,aZ,if_neg (by simp[hw]),if_pos u]
def GO(h:l[q]?=some b)(hw:dI b=false)(u:¬b.toNat=35):aZ false (l.drop q)=0:=by
 rw[bK h,aZ,if_neg (by simp[hw]),if_neg u]
def xp(c:Bool)(h:l.length<=q):aZ c (l.drop q)=0:=by
 rw[ez h,aZ]
def GN(h:l[q]?=some b)(u:¬b.toNat=10):aZ true (l.drop q)=aZ true (l.drop (q+1))+1:=by
 rw[bK h,aZ,if_neg u]
def QA(h:l[q]?=some b)(u:b.toNat=10):aZ true (l.drop q)=aZ false (l.drop q):=by
 rw[bK h,aZ,aZ,if_pos u,if_pos (by simp[dI,u])]
def Qy(h:l[q]?=some b)(u:b.toNat=35):aZ true (l.drop q)=aZ false (l.drop q):=by
 rw[GN h (by omega),Qz h (by simp[dI,u]) u]
def Gr{p:UInt8->Bool}(h:l[q]?=some b)(hp:p b=true):aQ p (l.drop q)=aQ p (l.drop (q+1))+1:=by
 rw[bK h,aQ,if_pos hp]
def Gl{p:UInt8->Bool}(h:l[q]?=some b)(hp:p b=false):aQ p (l.drop q)=0:=by
 rw[bK h,aQ,if_neg (by simp[hp])]
def Gj{p:UInt8->Bool}(h:l.length<=q):aQ p (l.drop q)=0:=by
 rw[ez h,aQ]
def pn(l:List UInt8)(q:Nat)(b:UInt8):Bool:=(!dI b&&!decide (b.toNat=35))&&(!eO b&&(!b_ b&&decide (iy (l.drop q)=0)))
def R7(h:l[q]?=some b)(hp:pn l q b=true):eX (l.drop q)=eX (l.drop (q+1))+1:=by
 simp only[pn,bK h,Bool.and_eq_true,Bool.not_eq_true',decide_eq_false_iff_not,decide_eq_true_eq]at hp;rw[bK h,eX,if_pos ⟨hp.1,hp.2.1,hp.2.2.1,hp.2.2.2⟩]
def R6(h:l[q]?=some b)(hp:pn l q b=false):eX (l.drop q)=0:=by
 rw[bK h,eX,if_neg];rintro⟨h1,h2,h3,h4⟩;rw[<- Bool.not_eq_true]at hp;apply hp;simp only[pn,bK h,Bool.and_eq_true,Bool.not_eq_true',decide_eq_false_iff_not,decide_eq_true_eq];exact⟨h1,h2,h3,h4⟩
def R5(h:l.length<=q):eX (l.drop q)=0:=by rw[ez h,eX]
def Rc(h:l[q]?=some b):fL (l.drop q)=if eO b=true then(if(l.drop q).take (aQ cj (l.drop q))∈cZ then 2 else 1,aQ cj (l.drop q))else if b_ b=true then(3,aQ b_ (l.drop q))else if 0 <iy (l.drop q)then(4,iy (l.drop q))else(5,eX (l.drop q)):=by
 rw[bK h,xZ]
end
def cN(l:List UInt8)(q:Nat):Nat:=q+aZ false (l.drop q)
def jE(l:List UInt8)(q:Nat):Nat:=cN l q+(fL (l.drop (cN l q))).2
def yu{l:List UInt8}{q:Nat}(h:q<=l.length):q<=cN l q/\cN l q<=l.length:=by
 have:=sq false (l.drop q);simp at this;unfold cN;omega
def yZ{l:List UInt8}{q:Nat}(h:cN l q <l.length):cN l q <jE l q/\jE l q<=l.length:=by
 have h1:=Rb (l.drop (cN l q));simp at h1;obtain⟨b,u⟩:∃b,l[cN l q]?=some b:=⟨_,List.getElem?_eq_getElem h⟩
 have h2:(l.drop q).drop (aZ false (l.drop q))=b::l.drop (cN l q+1):=by
  rw[List.drop_drop,<- bK u];rfl
 obtain⟨h3,h4⟩:=GP (l.drop q) _ _ h2;have v:=Re (r:=l.drop (cN l q+1)) h3 h4;rw[<- bK u]at v;unfold jE;omega
def A7{l:List UInt8}{f q:Nat}(h:cN l q <l.length):jU l (f+1) q=⟨(fL (l.drop (cN l q))).1,q,cN l q,jE l q⟩::jU l f (jE l q):=by
 rw[jU,if_pos (by exact h)];rfl
def A6{l:List UInt8}{f q:Nat}(h:¬cN l q <l.length):jU l (f+1) q=[⟨0,q,l.length,l.length⟩]:=by
 rw[jU,if_neg (by exact h)]
theorem Gx{l:List UInt8}:∀{f g q:Nat},q<=l.length->l.length <f+q->l.length <g+q->jU l f q=jU l g q
 |0,_,q,h,v,_=>by omega
 |_,0,q,h,_,y=>by omega
 |f+1,g+1,q,h,v,y=>by
  by_cases u:cN l q <l.length
  ·have h1:=yZ u;have h2:=(yu h).1;rw[A7 u,A7 u,Gx (f:=f) (g:=g) h1.2 (by omega) (by omega)]
  ·rw[A6 u,A6 u]
def sn(l:List UInt8)(q:Nat):List Tok:=jU l (l.length+1 - q) q
def PQ{l:List UInt8}{q:Nat}(hq:q<=l.length)(h:cN l q <l.length):sn l q=⟨(fL (l.drop (cN l q))).1,q,cN l q,jE l q⟩::sn l (jE l q):=by
 have h1:=yZ h;have h2:=(yu hq).1;unfold sn;rw[show l.length+1 - q=(l.length - q)+1 by omega,A7 h,Gx (f:=l.length - q) (g:=l.length+1 - jE l q) h1.2 (by omega) (by omega)]
def PP{l:List UInt8}{q:Nat}(hq:q<=l.length)(h:¬cN l q <l.length):sn l q=[⟨0,q,l.length,l.length⟩]:=by
 unfold sn;rw[show l.length+1 - q=(l.length - q)+1 by omega,A6 h]
section
variable {S:List (List UInt8)} {k:Nat} {s t:List UInt8}
def QY(h:S[k]?=some s)(hp:s.length<=t.length/\t.take s.length=s):fk (S.drop k) t=s.length:=by
 rw[bK h,fk,if_pos hp]
def Hg(h:S[k]?=some s)(hp:¬(s.length<=t.length/\t.take s.length=s)):fk (S.drop k) t=fk (S.drop (k+1)) t:=by
 rw[bK h,fk,if_neg hp]
def QX(h:S.length<=k):fk (S.drop k) t=0:=by rw[ez h,fk]
end
structure Tb where
 name:ByteArray
 kind:Int
 av:List Int
 lo:Int
 hi:Int
 first:Int
structure Tm where
 cell:Int
 bU:Int
deriving DecidableEq
structure Rw where
 a8:List Tm
 ib:Int
deriving DecidableEq
structure Cn where
 kind:Int
 kF:Int
 row:Rw
 first:Int
 size:Int
structure gq where
 name:ByteArray
 ord:Bool
 ai:List Int
structure bv where
 cell:Int
 add:Int
structure cG where
 kind:Int
 cell:Int
 value:Int
structure jv where
 delta:List bv
 hold:List Rw
 cg:List cG
structure dU where
 op:Int
 args:List Int
 eff:jv
structure Hde where
 table:Int
 fa:Int
 to:Int
structure Md where
 ai:List Int
 tables:List Tb
 bx:List ByteArray
 cons:List Cn
 ops:List gq
 au:List dU
 aG:List Hde
section
variable {α:Type} {p:Nat->α->Bool} {l:List α} {q:Nat} {x:α}
def aL(p:Nat->α->Bool):Nat->List α->Bool
 |_,[]=>true
 |i,x::r=>p i x&&aL p (i+1) r
def allI(p:Nat->α->Bool)(l:List α):Bool:=aL p 0 l
def qV(h:l[q]?=some x):aL p q (l.drop q)=(p q x&&aL p (q+1) (l.drop (q+1))):=by rw[bK h];rfl
def cU(h:l.length<=q):aL p q (l.drop q)=true:=by rw[ez h];rfl
theorem BV:∀{l:List α} {q:Nat},aL p q l=true↔∀k x,l[k]?=some x->p (q+k) x=true
 |[],q=>by simp[aL]
 |y::r,q=>by
  unfold aL;rw[Bool.and_eq_true,BV (l:=r) (q:=q+1)];constructor
  ·rintro⟨h1,h2⟩ k x u
   cases k with
   |zero=>cases u;exact h1
   |succ k=>have:=h2 k x (by simpa using u);rwa[show q+1+k=q+(k+1) by omega]at this
  ·intro h;exact⟨h 0 y rfl,fun k x u=>by have:=h (k+1) x (by simpa using u);rwa[show q+1+k=q+(k+1) by omega]⟩
def gu:allI p l=true↔∀k x,l[k]?=some x->p k x=true:=by
 unfold allI;rw[BV];simp
def oe(f:α->Bool)(h:l[q]?=some x):(l.drop q).any f=(f x ||(l.drop (q+1)).any f):=by rw[bK h];rfl
def od(f:α->Bool)(h:l.length<=q):(l.drop q).any f=false:=by rw[ez h];rfl
def i_(f:α->Bool)(h:l[q]?=some x):(l.drop q).all f=(f x&&(l.drop (q+1)).all f):=by rw[bK h];rfl
def g_(f:α->Bool)(h:l.length<=q):(l.drop q).all f=true:=by rw[ez h];rfl
end
def gE(s:ByteArray):Bool:=oU s.data.toList
def cx(l:List Int):Bool:=l.all fun n=>decide (1<=n)&&decide (n<=6)
def cr(u:List Int)(c:Int):Bool:=decide (0<=c)&&decide (c <u.length)
def c6(u v:List Int):Int:=v.foldl (fun n c=>n*u.getD c.toNat 0) 1
def bG(u v:List Int):Int:=if(decide (v.length<=3)&&cx u)&&v.all (cr u)then c6 u v else 0
def bA(k:Int):Bool:=decide (k=0)||decide (k=1)
def r_(t:Tb):Bool:=(decide (t.lo<=t.hi)&&(decide (-9999<=t.lo)&&decide (t.hi<=9999)))&&(!(decide (t.kind=0)||(decide (t.kind=2)||decide (t.kind=3)))||(decide (t.lo=0)&&decide (t.hi=1)))
def bp(u:List Int)(s:Bool)(l:List Tb):Int:=l.foldl (fun n t=>if bA t.kind=s then n+bG u t.av else n) 0
def iz(v:List Int)(l:List Tb)(i:Nat)(t:Tb):Bool:=
 (!(l.take i).any fun u=>decide (u.name=t.name))&&(gE t.name&&((decide (0<=t.kind)&&decide (t.kind<=5))&&(!decide (bG v t.av=0)&&(r_ t&&decide (t.first=bp v (bA t.kind) (l.take i))))))
def bQ(u:List Int)(l:List Tb):Bool:=(decide (u.length<=4)&&(cx u&&decide (l.length<=12)))&&(allI (iz u l) l&&(decide (bp u true l<=128)&&decide (bp u false l<=64)))
def eQ(u:List Int)(s:Bool)(t:Tb):List (Int×Int):=if bA t.kind=s then List.replicate (bG u t.av).toNat (t.lo,t.hi)else[]
def bH(u:List Int)(l:List Tb)(s:Bool):List (Int×Int):=if bQ u l then l.flatMap (eQ u s)else[]
def ff(u:List Int)(s:Bool)(c:Int)(t:Tb):Bool:=decide (bA t.kind=s)&&(decide (0<=c)&&(decide (0<=c - t.first)&&decide (c - t.first <bG u t.av)))
def fV(f:Tb->Bool):Nat->List Tb->Option (Nat×Tb)
 |_,[]=>none
 |i,t::r=>if f t=true then some (i,t)else fV f (i+1) r
def fI(u:List Int)(l:List Tb)(s:Bool)(c:Int):Option (Nat×Tb):=if bQ u l then fV (ff u s c) 0 l else none
def vP{f:Tb->Bool}{l:List Tb}{q:Nat}{t:Tb}(h:l[q]?=some t):fV f q (l.drop q)=if f t=true then some (q,t)else fV f (q+1) (l.drop (q+1)):=by rw[bK h];rfl
def De{f:Tb->Bool}{l:List Tb}{q:Nat}(h:l.length<=q):fV f q (l.drop q)=none:=by rw[ez h];rfl
def jl(u v:List Int):Nat->Int->List Int->List Int
 |0,_,r=>r
 |i+1,k,r=>jl u v i (k.tdiv (u.getD (v.getD i 0).toNat 0)) (r.set i (k.tmod (u.getD (v.getD i 0).toNat 0)))
def qw(u v:List Int)(k:Int):List Int:=jl u v v.length k (List.replicate v.length 0)
def cH(x m:Int):Bool:=decide (-m<=x)&&decide (x<=m)
def fK(n:Int)(l:List Tm)(i:Nat)(t:Tm):Bool:=(decide (0<=t.cell)&&decide (t.cell <n))&&((decide (i=0)||decide ((l.getD (i - 1) ⟨0,0⟩).cell <t.cell))&&(!decide (t.bU=0)&&cH t.bU 1000))
def cD(n:Int)(r:Rw):Bool:=allI (fK n r.a8) r.a8&&cH r.ib 1000000000
def ij(u:List Int)(c:Cn)(t:Tb):Bool:=decide (t.kind=0)&&(decide (t.av.length=2)&&(decide (t.av.getD 0 0=t.av.getD 1 0)&&(decide (t.first=c.first)&&decide (u.getD (t.av.getD 0 0).toNat 0=c.size))))
def jH(m:Md)(c:Cn):Bool:=(decide (c.row.a8.length=0)&&decide (c.row.ib=0))&&m.tables.any (ij m.ai c)
def nS(i:Nat)(r:Int×Int):Rw:=⟨[⟨i,-1⟩],-r.1⟩
def qB(i:Nat)(r:Int×Int):Rw:=⟨[⟨i,1⟩],r.2⟩
def R9:Rw:=⟨[],0⟩
def lg:Cn:=⟨0,0,R9,0,0⟩
def mW(cs:List Cn)(i:Nat)(r:Int×Int):Bool:=decide ((cs.getD (2*i) lg).row=nS i r)&&decide ((cs.getD (2*i+1) lg).row=qB i r)
def jA(m:Md)(n:Nat)(i:Nat)(c:Cn):Bool:=
 (decide (0<=c.kF)&&decide (c.kF <m.bx.length))&&((decide (c.kind=0)&&(decide (c.first=0)&&(decide (c.size=0)&&cD n c.row)))||(decide (2*n<=i)&&(decide (c.kind=1)&&jH m c)))
def lz(m:Md)(l:List (Int×Int)):Bool:=(decide (2*l.length<=m.cons.length)&&decide (m.cons.length<=512))&&(allI (mW m.cons) l&&allI (jA m l.length) m.cons)
def eu(n:Int)(l:List bv)(i:Nat)(t:bv):Bool:=(decide (0<=t.cell)&&decide (t.cell <n))&&((decide (i=0)||decide ((l.getD (i - 1) ⟨0,0⟩).cell <t.cell))&&(!decide (t.add=0)&&cH t.add 1000000000))
def oZ(k:Int):Bool:=decide (k=2)||decide (k=3)
def nY(u:cG)(t:Tb):Bool:=if oZ t.kind then((decide (u.kind=0)||decide (u.kind=1))&&decide (u.value=0))else(decide (u.kind=2)&&(decide (t.lo<=u.value)&&decide (u.value<=t.hi)))
def gY(m:Md)(l:List cG)(i:Nat)(u:cG):Bool:=match fI m.ai m.tables false u.cell with
 |some (_,t)=>(decide (i=0)||decide ((l.getD (i - 1) ⟨0,0,0⟩).cell <u.cell))&&nY u t
 |none=>false
def lC(m:Md)(n:Int)(x:jv):Bool:=(allI (eu n x.delta) x.delta&&(x.hold.all (cD n)&&allI (gY m x.cg) x.cg))&&(decide (x.hold.length<=8)&&decide (x.cg.length<=32))
def iN:List Int->List Int->Bool
 |x::a,y::b=>if x=y then iN a b else decide (x <y)
 |[],_::_=>true
 |_,[]=>false
def j9(m:Md)(s a:Int):Bool:=if s <0 then cH a 9999 else decide (0<=a)&&decide (a <m.ai.getD s.toNat 0)
def uN:gq:=⟨⟨#[]⟩,false,[]⟩
def fv:dU:=⟨0,[],⟨[],[],[]⟩⟩
def dA(m:Md)(n:Int)(i:Nat)(a:dU):Bool:=
 (((decide (0<=a.op)&&decide (a.op <m.ops.length))&&decide (a.args.length=(m.ops.getD a.op.toNat uN).ai.length))&&allI (fun k x=>j9 m ((m.ops.getD a.op.toNat uN).ai.getD k 0) x) a.args)&&
 ((decide (i=0)||(decide ((m.au.getD (i - 1) fv).op <a.op)||(decide ((m.au.getD (i - 1) fv).op=a.op)&&iN (m.au.getD (i - 1) fv).args a.args)))&&lC m n a.eff)
def eF(m:Md)(o:gq):Bool:=(o.ai.all fun s=>decide (-1<=s)&&decide (s <m.ai.length))&&decide (o.ai.length<=3)
def jC(l:List ByteArray)(i:Nat)(s:ByteArray):Bool:=gE s&&!(l.take i).any fun u=>decide (u=s)
def gP(l:List ByteArray):Bool:=allI (jC l) l
def pB(m:Md)(n:Int):Bool:=(m.ops.all (eF m)&&(decide (m.ops.length<=8)&&(gP (m.ops.map (·.name))&&decide (m.au.length<=256))))&&allI (dA m n) m.au
def sC:Tb:=⟨⟨#[]⟩,0,[],0,0,0⟩
def rC(i:Int)(n:Nat):Bool:=decide (0<=i)&&decide (i <n)
def fe(m:Md)(h:Hde):Bool:=(rC h.table m.tables.length&&(rC h.to m.tables.length&&!decide (h.table=h.to)))&&
 ((decide ((m.tables.getD h.table.toNat sC).kind=0)&&decide ((m.tables.getD h.to.toNat sC).kind=0))&&(rC h.fa (m.tables.getD h.table.toNat sC).av.length&&(decide ((m.tables.getD h.to.toNat sC).av.length=1)&&decide ((m.tables.getD h.to.toNat sC).av.getD 0 0=(m.tables.getD h.table.toNat sC).av.getD h.fa.toNat 0))))
def ci(l:List Hde):Nat->Int->Int->Bool
 |0,a,b=>decide (a=b)
 |n+1,a,b=>decide (a=b)||l.any fun h=>decide (h.table=a)&&ci l n h.to b
def gC(m:Md):Bool:=decide (m.aG.length<=12)&&(m.aG.all (fe m)&&m.aG.all fun h=>!ci m.aG m.tables.length h.to h.table)
def b7(m:Md):Bool:=((bQ m.ai m.tables&&decide (m.bx.length<=24))&&gP m.bx)&&(lz m (bH m.ai m.tables true)&&(pB m (bH m.ai m.tables true).length&&gC m))
section
variable {S C:List Int}
def wP{k:Nat}{c:Int}(h:C[k]?=some c):c6 S (C.take (k+1))=c6 S (C.take k)*S.getD c.toNat 0:=p4 _ _ h
def G1(hs:cx S=true){k:Nat}{n:Int}(h:S[k]?=some n):1<=n/\n<=6:=by
 have:=List.all_eq_true.1 hs n (List.mem_of_getElem? h);simpa using this
def vk(hs:cx S=true){c:Int}(hc:cr S c=true):1<=S.getD c.toNat 0/\S.getD c.toNat 0<=6:=by
 simp only[cr,Bool.and_eq_true,decide_eq_true_eq]at hc;obtain⟨n,u⟩:∃n,S[c.toNat]?=some n:=⟨_,List.getElem?_eq_getElem (by omega)⟩;rw[fb u];exact G1 hs u
theorem Fs(hs:cx S=true):∀(C:List Int) (a b:Int),C.all (cr S)=true->1<=a->a<=b->a<=C.foldl (fun n c=>n*S.getD c.toNat 0) a/\C.foldl (fun n c=>n*S.getD c.toNat 0) a<=b*6^C.length
 |[],a,b,_,_,h=>by simp;exact h
 |c::C,a,b,u,D,y=>by
  simp only[List.all_cons,Bool.and_eq_true]at u;obtain⟨h1,h2⟩:=vk hs u.1;have z:a*1<=a*S.getD c.toNat 0:=Int.mul_le_mul_of_nonneg_left h1 (by omega);have v:a*S.getD c.toNat 0<=b*6:=Int.mul_le_mul y h2 (by omega) (by omega);have:=Fs hs C (a*S.getD c.toNat 0) (b*6) u.2 (by omega) v;rw[List.foldl_cons,List.length_cons,Int.pow_succ];rw[Int.mul_assoc,Int.mul_comm 6]at this;exact⟨by omega,this.2⟩
def mY(hs:cx S=true)(hc:C.all (cr S)=true)(hl:C.length<=3):1<=c6 S C/\c6 S C<=216:=by
 have h:=Fs hs C 1 1 hc (by omega) (by omega);refine⟨h.1,Int.le_trans h.2 ?_⟩;have:C.length=0\/C.length=1\/C.length=2\/C.length=3:=by omega
 rcases this with e|e|e|e <;>rw[e]<;>decide
def mS(S C:List Int):0<=bG S C/\bG S C<=216:=by
 unfold bG;split
 ·rename_i h;simp only[Bool.and_eq_true,decide_eq_true_eq]at h;have:=mY h.1.2 h.2 (by omega);omega
 ·omega
theorem yK(s:Bool):∀(l:List Tb) (a:Int),0<=a->a<=l.foldl (fun n t=>if bA t.kind=s then n+bG S t.av else n) a/\l.foldl (fun n t=>if bA t.kind=s then n+bG S t.av else n) a<=a+216*l.length
 |[],a,h=>by simp
 |t::l,a,h=>by
  have u:=mS S t.av;rw[List.foldl_cons,List.length_cons];split
  ·have:=yK s l (a+bG S t.av) (by omega);omega
  ·have:=yK s l a h;omega
def ky(s:Bool)(l:List Tb):0<=bp S s l/\bp S s l<=216*l.length:=by
 have:=yK (S:=S) s l 0 (by omega);unfold bp;omega
def rc(s:Bool){l:List Tb}{k:Nat}{t:Tb}(h:l[k]?=some t):bp S s (l.take (k+1))=if bA t.kind=s then bp S s (l.take k)+bG S t.av else bp S s (l.take k):=p4 _ _ h
end
def tw{α β:Type}{f:α->List β}{l:List α}{q:Nat}{x:α}(h:l[q]?=some x):(l.take (q+1)).flatMap f=(l.take q).flatMap f++f x:=by
 rw[List.take_add_one,h];simp
def FH{α:Type}(n:Nat)(x:α):List.replicate (n+1) x=List.replicate n x++[x]:=List.replicate_succ'
def Pb(S:List Int)(s:Bool)(t:Tb):(eQ S s t).length=if bA t.kind=s then(bG S t.av).toNat else 0:=by
 unfold eQ;split <;>simp
theorem FT(S:List Int)(s:Bool):∀(l:List Tb) (a:Int),a+(l.flatMap (eQ S s)).length=l.foldl (fun n t=>if bA t.kind=s then n+bG S t.av else n) a
 |[],a=>by simp
 |t::l,a=>by
  have y:=mS S t.av;have u:=Pb S s t;have v:=FT S s l (if bA t.kind=s then a+bG S t.av else a);rw[List.flatMap_cons,List.foldl_cons,<- v,List.length_append,u];split <;>omega
def uq(S:List Int)(s:Bool)(l:List Tb):((l.flatMap (eQ S s)).length:Int)=bp S s l:=by
 have:=FT S s l 0;unfold bp;omega
def FU(S:List Int)(s:Bool)(l:List Tb):(l.flatMap (eQ S s)).length<=216*l.length:=by
 have:=uq S s l;have:=ky (S:=S) s l;omega
def DZ{S:List Int}{L:List Tb}(h:bQ S L=true):bp S true L<=128/\bp S false L<=64:=by
 simp only[bQ,Bool.and_eq_true,decide_eq_true_eq]at h;exact⟨h.2.2.1,h.2.2.2⟩
def jk{S:List Int}{L:List Tb}(h:bQ S L=true):S.length<=4/\L.length<=12:=by
 simp only[bQ,Bool.and_eq_true,decide_eq_true_eq]at h;exact⟨h.1.1,h.1.2.2⟩
def p_{S:List Int}{L:List Tb}(h:bQ S L=true):cx S=true:=by
 simp only[bQ,Bool.and_eq_true,decide_eq_true_eq]at h;exact h.1.2.1
def rM{S:List Int}{L:List Tb}(h:bQ S L=true){k:Nat}{t:Tb}(ht:L[k]?=some t):iz S L k t=true:=by
 simp only[bQ,Bool.and_eq_true]at h;exact gu.1 h.2.1 k t ht
def FV(S:List Int)(L:List Tb)(s:Bool):(bH S L s).length<=128:=by
 unfold bH;split
 ·rename_i h;have h1:=uq S s L;have h2:=DZ h;cases s <;>omega
 ·simp
def Ns{S C:List Int}(h:bG S C≠0):C.length<=3/\cx S=true/\C.all (cr S)=true:=by
 unfold bG at h;split at h
 ·rename_i u;simpa[Bool.and_eq_true,and_assoc]using u
 ·exact absurd rfl h
def jL{S:List Int}{L:List Tb}(h:bQ S L=true){k:Nat}{t:Tb}(ht:L[k]?=some t):t.av.length<=3/\cx S=true/\t.av.all (cr S)=true:=by
 have h1:=rM h ht;simp only[iz,Bool.and_eq_true,Bool.not_eq_true',decide_eq_false_iff_not]at h1;exact Ns h1.2.2.2.1
def D0{S:List Int}{L:List Tb}(h:bQ S L=true){k:Nat}{t:Tb}(ht:L[k]?=some t):t.lo<=t.hi/\ -9999<=t.lo/\t.hi<=9999:=by
 have h1:=rM h ht;simp only[iz,r_,Bool.and_eq_true,Bool.not_eq_true',decide_eq_false_iff_not,decide_eq_true_eq]at h1;exact h1.2.2.2.2.1.1
def Pc{S:List Int}{L:List Tb}{s:Bool}{r:Int×Int}(hr:r∈bH S L s):r.1<=r.2/\ -9999<=r.1/\r.2<=9999:=by
 unfold bH at hr;split at hr
 ·rename_i h;obtain⟨t,y,u⟩:=List.mem_flatMap.1 hr;obtain⟨k,v,rfl⟩:=List.getElem_of_mem y;unfold eQ at u;split at u
  ·obtain⟨_,rfl⟩:=List.mem_replicate.1 u;exact D0 h (List.getElem?_eq_getElem v)
  ·cases u
 ·cases hr
theorem xU{S:List Int}{s:Bool}{c:Int}:∀{l:List Tb} {q i:Nat} {t:Tb},fV (ff S s c) q l=some (i,t)->q<=i/\l[i - q]?=some t/\ff S s c t=true
 |[],_,_,_,h=>by cases h
 |u::l,q,i,t,h=>by
  unfold fV at h;split at h
  ·rename_i v;cases h;exact⟨Nat.le_refl _,by simp,v⟩
  ·obtain⟨h1,h2,h3⟩:=xU h;refine⟨by omega,?_,h3⟩;rw[show i - q=(i - (q+1))+1 by omega];simpa using h2
def Q0{S:List Int}{L:List Tb}{s:Bool}{c:Int}{i:Nat}{t:Tb}(h:fI S L s c=some (i,t)):bQ S L=true/\L[i]?=some t/\ff S s c t=true:=by
 unfold fI at h;split at h
 ·rename_i u;have:=xU h;exact⟨u,this.2.1,this.2.2⟩
 ·cases h
section
variable {α:Type}
structure Se (lt:α->α->Bool):Prop where
 Si:∀a b,lt a b=true->lt b a=false
 Sj:∀a b c,lt a b=false->lt b c=false->lt a c=false
variable (lt:α->α->Bool)
def z8:List α->List α->List α
 |[],b=>b
 |x::a,[]=>x::a
 |x::a,y::b=>if lt y x=true then y::z8 (x::a) b else x::z8 a (y::b)
termination_by a b=>a.length+b.length
def Ly(x:α)(l:List α):List α:=z8 lt l [x]
def DM(l:List α):List α:=l.foldl (fun o x=>Ly lt x o) []
variable {lt}
end
def sg(a b:Int):Int:=if a <b then -1 else if b <a then 1 else 0
def Ee(a b:Ev):Bool:=if a.t=b.t then(if a.r=b.r then decide (a.n <b.n)else decide (a.r <b.r))else decide (a.t <b.t)
section
variable {α:Type} (lt:α->α->Bool)
end
section
variable {α:Type}
end
def nm(e:Ev):Int×Int:=(e.r,e.n)
def kD:Nat->List Int->List (Int×Int)
 |_,[]=>[]
 |r,n::c=>(List.range n.toNat).map (fun i:Nat=>((r:Int),(i:Int)+1))++kD (r+1) c
def qX(a b:Ev):Bool:=cW a&&(cW b&&hasS b.past a.r a.n)
structure ClosedP (l:List Ev):Prop where
 eN:l.length<=1024
 form:∀e∈l,cW e=true
 alike:∀e∈l,∀x∈l,e.past.length=x.past.length
 names:(l.map nm).Nodup
 down:∀e∈l,∀r n,hasS e.past r n=true->∃x∈l,nm x=(r,n)/\DI x.past e.past=true/\x.t <e.t
open Classical in
section
end
theorem yS{p:Int×Int}:∀(c:List Int) (r:Nat),p∈kD r c↔∃k,k <c.length/\p.1=(r+k:Nat)/\1<=p.2/\p.2<=c.getD k 0
 |[],r=>by simp[kD]
 |n::c,r=>by
  rw[kD,List.mem_append,yS c (r+1)];constructor
  ·rintro(h|⟨k,h1,h2,h3,h4⟩)
   ·simp only[List.mem_map,List.mem_range]at h;obtain⟨i,u,rfl⟩:=h;refine⟨0,by simp,by simp,by dsimp only;omega,?_⟩;show(i:Int)+1<=n
    omega
   ·refine⟨k+1,by simp;omega,by omega,h3,?_⟩;simpa using h4
  ·rintro⟨k,h1,h2,h3,h4⟩
   cases k with
   |zero=>
    left
    have h4:p.2<=n:=by simpa using h4
    simp only[List.mem_map,List.mem_range];refine⟨(p.2 - 1).toNat,by omega,?_⟩;obtain⟨v,y⟩:=p;simp only[Prod.mk.injEq];simp at h2 h3;constructor <;>omega
   |succ k=>
    right
    exact⟨k,by simp at h1;omega,by omega,h3,by simpa using h4⟩
def yR{c:List Int}(hv:gK c=true){r n:Int}:(r,n)∈kD 0 c↔hasS c r n=true:=by
 rw[yS];unfold hasS;simp only[hv,Bool.true_and,Bool.and_eq_true,decide_eq_true_eq];constructor
 ·rintro⟨k,h1,h2,h3,h4⟩;have h2:r=(k:Int):=by simpa using h2
  subst h2;exact⟨by omega,by omega,h3,by simpa using h4⟩
 ·rintro⟨h1,h2,h3,h4⟩;exact⟨r.toNat,by omega,by simp;omega,h3,h4⟩
theorem ER{α β:Type}{f:α->β}(hf:∀a b,f a=f b->a=b):∀{l:List α},l.Nodup->(l.map f).Nodup
 |[],_=>List.nodup_nil
 |x::l,h=>by
  have h:=List.nodup_cons.1 h;rw[List.map_cons,List.nodup_cons];refine⟨fun v=>?_,ER hf h.2⟩;obtain⟨y,u,e⟩:=List.mem_map.1 v;rw[hf _ _ e]at u;exact h.1 u
theorem CT:∀(c:List Int) (r:Nat),(kD r c).Nodup
 |[],r=>List.nodup_nil
 |n::c,r=>by
  rw[kD,List.nodup_append];refine⟨ER (fun a b h=>by simp only[Prod.mk.injEq]at h;omega) List.nodup_range,CT c (r+1),fun a u b v e=>?_⟩;subst e;obtain⟨i,_,rfl⟩:=List.mem_map.1 u;obtain⟨k,_,h2,_⟩:=(yS c (r+1)).1 v;dsimp only at h2;omega
theorem foldl_add:∀(c:List Int) (a:Int),c.foldl (·+·) a=a+c.foldl (·+·) 0
 |[],a=>by simp
 |x::c,a=>by
  rw[List.foldl_cons,List.foldl_cons,foldl_add c (a+x),foldl_add c (0+x)];omega
theorem CS:∀(c:List Int) (r:Nat),(∀n∈c,0<=n)->((kD r c).length:Int)=Bo c
 |[],r,_=>rfl
 |n::c,r,h=>by
  have u:=CS c (r+1) (fun x v=>h x (by simp[v]));have y:=h n (by simp);rw[kD,List.length_append,List.length_map,List.length_range];unfold Bo at u⊢;rw[List.foldl_cons,foldl_add c (0+n),<- u];omega
section
variable {α:Type} [DecidableEq α]
theorem wz:∀{L D:List α},L.Nodup->(∀x∈L,x∈D)->L.length<=D.length/\(L.length=D.length->∀x∈D,x∈L)
 |[],D,_,_=>⟨by simp,fun h x u=>by
  have:D=[]:=List.length_eq_zero_iff.1 (by simpa using h.symm);subst this;cases u⟩
 |y::L,D,J,hs=>by
  have I:=hs y (by simp);have v:=List.nodup_cons.1 J;have z:=List.length_erase_of_mem I;have G:0 <D.length:=List.length_pos_of_mem I;have V:=wz (L:=L) (D:=D.erase y) v.2 (fun x u=>(List.mem_erase_of_ne (fun e=>by subst e;exact v.1 u)).2 (hs x (by simp[u])));refine⟨by simp;omega,fun U x u=>?_⟩;by_cases e:x=y
  ·simp[e]
  ·have:=V.2 (by simp at U;omega) x ((List.mem_erase_of_ne e).2 u);simp[this]
def Nf{L D:List α}{p:α->Bool}(hp:∀x,p x=true↔x∈D)(z:L.Nodup)(y:D.Nodup):L.countP p=D.length↔∀x∈D,x∈L:=by
 rw[List.countP_eq_length_filter];have v:(L.filter p).Nodup:=z.filter _;have hs:∀x∈L.filter p,x∈D:=fun x u=>(hp x).1 (List.mem_filter.1 u).2;constructor
 ·intro h x u;exact(List.mem_filter.1 ((wz v hs).2 h x u)).1
 ·intro h;have h1:=(wz v hs).1;have h2:=(wz (L:=D) (D:=L.filter p) y (fun x u=>List.mem_filter.2 ⟨h x u,(hp x).2 u⟩)).1;omega
end
def KS{e:Ev}(h:cW e=true):gK e.past=true:=by
 simp only[cW,jh,Bool.and_eq_true]at h;exact h.1.1
def RF{c:List Int}(h:gK c=true):∀n∈c,0<=n:=fun n v=>by
 obtain⟨k,u,rfl⟩:=List.mem_iff_getElem.1 v;exact(Ak h (List.getElem?_eq_getElem u)).1
def wy(l:List Ev)(e:Ev):Nat:=l.countP fun x=>qX x e
def EF{l:List Ev}(hf:∀e∈l,cW e=true)(hn:(l.map nm).Nodup){e:Ev}(he:cW e=true):(wy l e:Int)=vl e.past↔∀r n,hasS e.past r n=true->∃x∈l,nm x=(r,n):=by
 have u:=KS he;have h1:vl e.past=((kD 0 e.past).length:Int):=by rw[vl,if_pos u,CS _ _ (RF u)]
 have h2:wy l e=(l.map nm).countP (fun p=>decide (p∈kD 0 e.past)):=by
  unfold wy;rw[List.countP_map];refine List.countP_congr fun x v=>?_;simp only[qX,hf x v,he,Bool.true_and,Function.comp,decide_eq_true_eq];exact(yR u).symm
 rw[h1,h2];have:=Nf (p:=fun p=>decide (p∈kD 0 e.past)) (fun x=>decide_eq_true_iff) hn (CT e.past 0);constructor
 ·intro h r n z;have:=this.1 (by omega) (r,n) ((yR u).2 z);obtain⟨x,v,y⟩:=List.mem_map.1 this;exact⟨x,v,y⟩
 ·intro h
  have:=this.2 (fun p D=>by
   obtain⟨x,v,y⟩:=h p.1 p.2 ((yR u).1 D);exact List.mem_map.2 ⟨x,v,y⟩)
  omega
def Nq{l:List Ev}(hn:(l.map nm).Nodup):∀{x y:Ev},x∈l->y∈l->nm x=nm y->x=y:=by
 induction l with
 |nil=>intro x y u;cases u
 |cons z l D=>
  intro x y u v e;rw[List.map_cons,List.nodup_cons]at hn;rcases List.mem_cons.1 u with h1|h1 <;>rcases List.mem_cons.1 v with h2|h2
  ·rw[h1,h2]
  ·subst h1;exact absurd (List.mem_map.2 ⟨y,h2,e.symm⟩) hn.1
  ·subst h2;exact absurd (List.mem_map.2 ⟨x,h1,e⟩) hn.1
  ·exact D hn.2 h1 h2 e
structure BJ (l:List Ev) (e:Ev):Prop where
 inside:∀x∈l,qX x e=true->DI x.past e.past=true/\x.t <e.t
 count:(wy l e:Int)=vl e.past
def Jg{l:List Ev}(V:l.length<=1024)(u:∀e∈l,cW e=true)(D:∀e∈l,∀x∈l,e.past.length=x.past.length)(v:(l.map nm).Nodup):ClosedP l↔∀e∈l,BJ l e:=by
 constructor
 ·intro h e z;have hf:=u e z;refine⟨fun x G J=>?_,(EF u v hf).2 fun r n U=>?_⟩
  ·simp only[qX,Bool.and_eq_true]at J;obtain⟨y,hy,Z,h1,h2⟩:=h.down e z _ _ J.2.2;obtain rfl:=Nq v hy G Z;exact⟨h1,h2⟩
  ·obtain⟨x,G,I,_⟩:=h.down e z r n U;exact⟨x,G,I⟩
 ·intro h;refine⟨V,u,D,v,fun e z r n U=>?_⟩;obtain⟨x,G,I⟩:=(EF u v (u e z)).1 (h e z).count r n U
  have J:qX x e=true:=by
   simp only[nm,Prod.mk.injEq]at I;simp[qX,u x G,u e z,I.1,I.2,U]
  exact⟨x,G,I,(h e z).inside x G J⟩
section
variable {α:Type} {lt:α->α->Bool}
end
section
variable {l:List Ev} (h:ClosedP l)
include h
end
def ln(out:List Int)(c:bv):List Int:=out.set c.cell.toNat (IntKind.wrap .i64 (out.getD c.cell.toNat 0+c.add))
def HV(out:List Int)(c:bv):(ln out c).length=out.length:=List.length_set
def getD_set_ne{l:List Int}{i j:Nat}{x:Int}(h:i≠j):(l.set i x).getD j 0=l.getD j 0:=by
 rw[List.getD_eq_getElem?_getD,List.getD_eq_getElem?_getD,List.getElem?_set_ne h]
def vG(m:Md)(e:Ev):List bv:=if e.k=0 then(m.au.getD e.a.toNat ⟨0,[],⟨[],[],[]⟩⟩).eff.delta else[]
def qU(m:Md)(out:List Int)(e:Ev):List Int:=(vG m e).foldl ln out
def pc(m:Md)(out:List Int)(l:List Ev):List Int:=l.foldl (qU m) out
def Dl(cs:List bv)(out:List Int):(cs.foldl ln out).length=out.length:=by
 induction cs generalizing out with
 |nil=>rfl
 |cons c cs u=>rw[List.foldl_cons,u,HV]
def QL(m:Md)(l:List Ev)(out:List Int):(pc m out l).length=out.length:=by
 unfold pc
 induction l generalizing out with
 |nil=>rfl
 |cons e l u=>rw[List.foldl_cons,u];exact Dl _ _
def QM{m:Md}{out:List Int}{l:List Ev}{q:Nat}{e:Ev}(h:l[q]?=some e):pc m out (l.take (q+1))=qU m (pc m out (l.take q)) e:=p4 _ _ h
structure Wr where
 e:Ev
 u:cG
def lO(S:List Int)(t:Tb):List Tb:=if bA t.kind=true then[]else List.replicate (bG S t.av).toNat t
def lN(S:List Int)(l:List Tb):List Tb:=l.flatMap (lO S)
section
variable {W:List Wr} {w:Wr} (h1:∀x∈W,hasS w.e.past x.e.r x.e.n=true) (h2:∀x∈W,hasS x.e.past w.e.r w.e.n=false) (h3:hasS w.e.past w.e.r w.e.n=false) (h4:∀x∈W,x.e.t <w.e.t)
include h2 h3 in
end
def k_(l:List Hde)(O:List Int)(t:Int):Bool:=!l.any fun h=>decide (h.table=t)&&decide (h.to∈O)
def Bc{l:List Hde}{O:List Int}{t:Int}:k_ l O t=true↔∀h∈l,h.table=t->h.to∉O:=by
 unfold k_;rw[Bool.not_eq_true',<- Bool.not_eq_true,List.any_eq_true];constructor
 ·intro h x v z y;exact h ⟨x,v,by simp[z,y]⟩
 ·rintro h ⟨x,v,u⟩;simp only[Bool.and_eq_true,decide_eq_true_eq]at u;exact h x v u.1 u.2
def wo{l:List Hde}{a b:Int}:ci l 0 a b=true↔a=b:=by simp[ci]
def nJ{l:List Hde}{n:Nat}{a b:Int}:ci l (n+1) a b=true↔a=b\/∃h∈l,h.table=a/\ci l n h.to b=true:=by
 show(decide (a=b)||l.any fun h=>decide (h.table=a)&&ci l n h.to b)=true↔_
 rw[Bool.or_eq_true,decide_eq_true_eq,List.any_eq_true];simp only[Bool.and_eq_true,decide_eq_true_eq]
def oN{l:List Hde}(n:Nat)(a:Int):ci l n a a=true:=by
 cases n with
 |zero=>exact wo.2 rfl
 |succ n=>exact nJ.2 (.inl rfl)
theorem D6{l:List Hde}{h:Hde}(hh:h∈l):∀{n:Nat} {a:Int},ci l n a h.table=true->ci l (n+1) a h.to=true
 |0,a,u=>by
  have:=wo.1 u;exact nJ.2 (.inr ⟨h,hh,this.symm,oN _ _⟩)
 |n+1,a,u=>by
  rcases nJ.1 u with rfl|⟨x,hx,ht,hl'⟩
  ·exact nJ.2 (.inr ⟨h,hh,rfl,oN _ _⟩)
  ·exact nJ.2 (.inr ⟨x,hx,ht,D6 hh hl'⟩)
def rU(l:List Hde)(h:Hde)(x:Int):Prop:=(∃i,ci l i h.to x=true)/\∃j,ci l j x h.table=true
def E0{l:List Hde}{h:Hde}{n:Nat}(hh:h∈l)(hc:ci l n h.to h.table=true){x:Int}(hx:rU l h x):∃g∈l,g.table=x/\rU l h g.to:=by
 obtain⟨⟨i,v⟩,j,u⟩:=hx
 cases j with
 |zero=>
  have:=wo.1 u;exact⟨h,hh,this.symm,⟨0,oN _ _⟩,n,hc⟩
 |succ j=>
  rcases nJ.1 u with rfl|⟨g,hg,hgt,hgl⟩
  ·exact⟨h,hh,rfl,⟨0,oN _ _⟩,n,hc⟩
  ·exact⟨g,hg,hgt,⟨i+1,D6 hg (by rw[hgt];exact v)⟩,j,hgl⟩
def NA{l:List Hde}{h:Hde}{n:Nat}(hh:h∈l)(hc:ci l n h.to h.table=true){O:List Int}(y:∀x,rU l h x->x∈O){t:Int}(ht:rU l h t):k_ l O t=false:=by
 rw[<- Bool.not_eq_true,Bc];intro hs;obtain⟨g,z,v,u⟩:=E0 hh hc ht;exact hs g z v (y _ u)
def NB{l:List Hde}{h:Hde}{n:Nat}(hc:ci l n h.to h.table=true):rU l h h.table:=⟨⟨n,hc⟩,0,oN _ _⟩
theorem Ai:∀(n:Nat) (l:List Int),l.Nodup->(∀x∈l,0<=x/\x <(n:Int))->l.length<=n
 |0,[],_,_=>Nat.le_refl _
 |0,x::l,_,h=>by have:=h x (by simp);omega
 |n+1,l,hd,h=>by
  have h1:(l.erase (n:Int)).length<=n:=Ai n _ (hd.erase _) fun x u=>by
   have h2:=(hd.mem_erase_iff).1 u;have h3:=h x h2.2;omega
  have h4:=List.length_erase (a:=(n:Int)) (l:=l);split at h4 <;>omega
theorem EQ:∀{w:List Int},(∀(i j:Nat) (x:Int),i <j->w[i]?=some x->w[j]?=some x->False)->w.Nodup
 |[],_=>List.nodup_nil
 |x::w,h=>List.nodup_cons.2 ⟨fun D=>by
   obtain⟨j,u⟩:=List.mem_iff_getElem?.1 D;exact h 0 (j+1) x (by omega) rfl (by simpa using u),EQ fun i j y z v u=>h (i+1) (j+1) y (by omega) (by simpa using v) (by simpa using u)⟩
theorem HB{l:List Hde}{O:List Int}(v:∀t∈O,k_ l O t=false):∀(k:Nat) (t:Int),t∈O->∃w:List Int,w.length=k+1/\w.head?=some t/\(∀x∈w,x∈O)/\∀i x y,w[i]?=some x->w[i+1]?=some y->∃g∈l,g.table=x/\g.to=y
 |0,t,z=>⟨[t],rfl,rfl,by simpa using z,fun i x y h1 h2=>by simp at h2⟩
 |k+1,t,z=>by
  have hs:=v t z;rw[<- Bool.not_eq_true,Bc]at hs
  have:∃h∈l,h.table=t/\h.to∈O:=by
   apply Classical.byContradiction;intro hn;exact hs fun h Z I J=>hn ⟨h,Z,I,J⟩
  obtain⟨g,V,G,D⟩:=this;obtain⟨w,h1,h2,h3,h4⟩:=HB v k g.to D;refine⟨t::w,by simp[h1],rfl,fun x u=>?_,fun i x y u U=>?_⟩
  ·rcases List.mem_cons.1 u with rfl|u
   ·exact z
   ·exact h3 x u
  ·cases i with
   |zero=>
    simp at u U;subst u;refine⟨g,V,G,?_⟩;have:w.head?=some y:=by rw[<- U];cases w <;>rfl
    rw[h2]at this;exact Option.some.inj this
   |succ i=>exact h4 i x y (by simpa using u) (by simpa using U)
theorem HA{l:List Hde}{w:List Int}(h4:∀i x y,w[i]?=some x->w[i+1]?=some y->∃g∈l,g.table=x/\g.to=y):∀(d i:Nat) (x y:Int),w[i]?=some x->w[i+d]?=some y->ci l d x y=true
 |0,i,x,y,I,u=>by
  rw[Nat.add_zero,I]at u;cases u;exact oN _ _
 |d+1,i,x,y,I,u=>by
  have G:i+1 <w.length:=by have:=aC u;omega
  obtain⟨z,J⟩:=aj G;obtain⟨g,U,D,v⟩:=h4 i x z I J;exact nJ.2 (.inr ⟨g,U,D,HA h4 d (i+1) g.to y (by rw[v];exact J) (by rw[show i+1+d=i+(d+1) by omega];exact u)⟩)
theorem D7{l:List Hde}:∀{n m:Nat} {a b:Int},n<=m->ci l n a b=true->ci l m a b=true
 |0,m,a,b,_,h=>by rw[wo.1 h];exact oN _ _
 |n+1,0,a,b,h,_=>by omega
 |n+1,m+1,a,b,u,h=>by
  rcases nJ.1 h with rfl|⟨g,hg,hgt,hgl⟩
  ·exact oN _ _
  ·exact nJ.2 (.inr ⟨g,hg,hgt,D7 (by omega) hgl⟩)
def K7{l:List Hde}{n:Nat}(I:∀h∈l,ci l n h.to h.table=false){O:List Int}(hO:∀t∈O,0<=t/\t <n)(ab:O≠[]):∃t∈O,k_ l O t=true:=by
 apply Classical.byContradiction;intro hn
 have ad:∀t∈O,k_ l O t=false:=fun t ht=>by
  rw[<- Bool.not_eq_true];exact fun h=>hn ⟨t,ht,h⟩
 obtain⟨t,D,rfl⟩:∃t D,O=t::D:=by
  cases O with
  |nil=>exact absurd rfl ab
  |cons t D=>exact⟨t,D,rfl⟩
 obtain⟨w,h1,_,h3,h4⟩:=HB ad n t (by simp)
 have Z:¬w.Nodup:=fun hd=>by
  have:=Ai n w hd fun x hx=>hO x (h3 x hx);omega
 have:∃(i j:Nat) (x:Int),i <j/\w[i]?=some x/\w[j]?=some x:=by
  apply Classical.byContradiction;intro z;exact Z (EQ fun i j x v V G=>z ⟨i,j,x,v,V,G⟩)
 obtain⟨i,j,x,v,V,G⟩:=this;have ag:=aC G;obtain⟨y,hy⟩:=aj (xs:=w) (k:=i+1) (by omega);obtain⟨g,hg,U,J⟩:=h4 i x y V hy;have hl:=HA h4 (j - (i+1)) (i+1) y x hy (by rw[show i+1+(j - (i+1))=j by omega];exact G);have u:=D7 (m:=n) (by omega) hl;rw[<- U,<- J]at u;rw[I g hg]at u;cases u
def yg(l:List Hde)(n:Nat)(O:List Int):Prop:=∀h∈l,ci l n h.to h.table=true->∀x,rU l h x->x∈O
structure lj (l:List Hde) (n:Nat) (O seen cur:List Int):Prop where
 sub:cur.Sublist O
 gone:∀t∈seen,k_ l O t=true->t∉cur
 ny:yg l n O->yg l n cur
def lj.start{l:List Hde}{n:Nat}{O:List Int}:lj l n O [] O:=⟨List.Sublist.refl _,fun _ h=>absurd h (by simp),id⟩
def Qx{l:List Hde}{O u:List Int}{t:Int}(h:∀x∈u,x∈O)(hs:k_ l O t=true):k_ l u t=true:=by
 rw[Bc]at hs⊢;exact fun g z v y=>hs g z v (h _ y)
def lj.im{l:List Hde}{n:Nat}{O u v:List Int}{t:Int}(h:lj l n O u v)(hs:k_ l v t=false):lj l n O (t::u) v where
 sub:=h.sub
 gone:=fun x z D=>by
  rcases List.mem_cons.1 z with rfl|z
  ·exact absurd (Qx (fun y G=>h.sub.subset G) D) (by rw[hs];decide)
  ·exact h.gone x z D
 ny:=h.ny
def lj.drop{l:List Hde}{n:Nat}{O v y:List Int}{t:Int}(h:lj l n O v y)(hs:k_ l y t=true):lj l n O (t::v) (y.filter fun x=>!decide (x=t)) where
 sub:=(List.filter_sublist).trans h.sub
 gone:=fun x z D V=>by
  obtain⟨J,U⟩:=List.mem_filter.1 V;rcases List.mem_cons.1 z with rfl|z
  ·simp at U
  ·exact h.gone x z D J
 ny:=fun D g I G x z=>by
  have u:=h.ny D;refine List.mem_filter.2 ⟨u g I G x z,?_⟩
  have:x≠t:=by
   rintro rfl;rw[NA I G (u g I G) z]at hs;cases hs
  simpa using this
structure np (l:List Hde) (n k:Nat) (O:List Int):Prop where
 yP:O.Nodup
 AU:∀t∈O,0<=t/\t <n
 eN:(∀h∈l,ci l n h.to h.table=false)->O.length<=l.length - k
 ny:yg l n O
def np.pass{l:List Hde}{n k:Nat}{O v u:List Int}(h:np l n k O)(y:lj l n O v u)(D:∀t∈u,t∈v):np l n (k+1) u where
 yP:=y.sub.nodup h.yP
 AU:=fun t I=>h.AU t (y.sub.subset I)
 eN:=fun z=>by
  have V:=h.eN z;have ab:=y.sub.length_le;rcases Nat.lt_or_ge u.length O.length with Z|U
  ·omega
  ·have J:u=O:=y.sub.eq_of_length (by omega);by_cases G:O=[]
   ·rw[J,G];simp
   ·obtain⟨t,I,hs⟩:=K7 z h.AU G;exact absurd I (by rw[<- J];exact y.gone t (D t (by rw[J];exact I)) hs)
 ny:=y.ny h.ny
def np.done{l:List Hde}{n:Nat}{O:List Int}(h:np l n l.length O):decide (O.length=0)=l.all fun g=>!ci l n g.to g.table:=by
 cases z:l.all fun g=>!ci l n g.to g.table with
 |true=>
  have y:∀g∈l,ci l n g.to g.table=false:=fun g u=>by simpa using List.all_eq_true.1 z g u
  have:=h.eN y;exact decide_eq_true (by omega)
 |false=>
  rw[<- Bool.not_eq_true,List.all_eq_true]at z
  have:∃g∈l,ci l n g.to g.table=true:=by
   apply Classical.byContradiction;intro I;apply z;intro g u
   cases v:ci l n g.to g.table with
   |false=>rfl
   |true=>exact absurd ⟨g,u,v⟩ I
  obtain⟨g,u,v⟩:=this;have D:=h.ny g u v _ (NB v);have:O.length≠0:=by intro G;rw[List.length_eq_zero_iff.1 G]at D;cases D
  simpa using this
end Go.Proofs.YtjolgbkkocjpgaaGreatDoor
