/- The plain functions that the clocks' texts compute,with. No condition. -/
import Derived.Test.YtcgdbhlnkificaaGreatDoorTBB
import Derived.Lib.ItoaNum
import Derived.Lib.Join
import Derived.Lib.AtoiTie
import Derived.Lib.SplitLaws
import Derived.Lib.Split
import Derived.Lib.Strings
import Derived.Lib.IndexLaws
import Derived.IntWalk
set_option linter.all false
namespace Go.Proofs.YtcgdbhlnkificaaGreatDoor
def rq(n:Int):Bool:=decide (0<=n)&&decide (n<=1024)
def je(xs:List Int):Bool:=xs.all rq&&decide (1<=xs.length)&&decide (xs.length<=5)
def KR(p:Int×Int):Bool:=decide (p.1<=p.2)
def C3(a b:List Int):Bool:=(a.zip b).all KR
def yr{α β:Type}(g:β->α->β)(b:β){l:List α}{k:Nat}{x:α}(h:l[k]?=some x):(l.take (k+1)).foldl g b=g ((l.take k).foldl g b) x:=by
 rw[List.take_add_one,h];simp[List.foldl_append]
def Az(xs:List Int):Int:=xs.foldl (·+·) 0
def uK(xs:List Int):Int:=if je xs then Az xs else 0
def hasS(c:List Int)(r n:Int):Bool:=je c&&(decide (0<=r)&&(decide (r <c.length)&&(decide (1<=n)&&decide (n<=c.getD r.toNat 0))))
def Me{n:Int}(h:rq n=true):0<=n/\n<=1024:=by simp[rq]at h;omega
def D8{xs:List Int}(h:je xs=true){k:Nat}{n:Int}(hn:xs[k]?=some n):0<=n/\n<=1024:=by
 simp only[je,Bool.and_eq_true,List.all_eq_true]at h;exact Me (h.1.1 n (List.mem_of_getElem? hn))
structure Sp where
 r:Int
 f:Int
 t:Int
deriving DecidableEq
def fL{xs:List Int}{k:Nat}{n:Int}(h:xs[k]?=some n):xs.getD k 0=n:=by rw[List.getD_eq_getElem?_getD,h];rfl
def dA(n l h:Int):Bool:=decide (l<=n)&&decide (n<=h)
def oh(e:Ev):Bool:=je e.past&&(dA e.r 0 ((e.past.length:Int) - 1)&&(decide (e.n=e.past.getD e.r.toNat 0+1)&&(decide (e.n<=1024)&&dA e.t 1 1073741824)))
def qU(e:Ev):Bool:=decide (e.gk=0)&&(decide (e.gi=0)&&(decide (e.ge=0)&&(decide (e.ga=0)&&decide (e.to=0))))
def sd(e:Ev):Bool:=dA e.a 0 255&&dA e.pl 0 1024&&dA e.se 1 1048576
def vR(e:Ev):Bool:=dA e.pl 1 1024&&dA e.se 1 1048576
def qT(e:Ev):Bool:=dA e.gk 0 1&&dA e.ge 0 (if e.gk=1 then 5 else 0)&&dA e.gi 0 1023&&dA e.ga 1 1000000&&dA e.to 0 ((e.past.length:Int) - 1)&&decide (e.to≠e.r)
def ew(e:Ev):Bool:=oh e&&(if e.k=0 then sd e&&qU e else if e.k=1 then qT e&&(decide (e.a=0)&&(decide (e.pl=0)&&decide (e.se=0)))else if e.k=2 then vR e&&(decide (e.a=0)&&qU e)else false)
open Go
def bV(b:UInt8):Bool:=decide (48<=b.toNat)&&decide (b.toNat<=57)
def IM(a:Nat)(l:List UInt8):Nat:=l.foldl (fun a b=>10*a+(b.toNat - 48)) a
def dv(l:List UInt8):Nat:=IM 0 l
structure QN (e:Ev):Prop where
 vp:je e.past=true
 r0:0<=e.r
 r1:e.r<=9999
 n0:0<=e.n
 n1:e.n<=9999
 t0:0<=e.t
 t1:e.t<=9999999999
 k:e.k=0\/e.k=1\/e.k=2
 k0:e.k=0->(0<=e.a/\e.a<=255/\0<=e.pl/\e.pl<=1024/\0<=e.se/\e.se<=1048576)/\e.gk=0/\e.gi=0/\e.ge=0/\e.ga=0/\e.to=0
 k2:e.k=2->(0<=e.pl/\e.pl<=1024/\0<=e.se/\e.se<=1048576)/\e.a=0/\e.gk=0/\e.gi=0/\e.ge=0/\e.ga=0/\e.to=0
 k1:e.k=1->((e.gk=0\/e.gk=1)/\0<=e.gi/\e.gi<=1023/\0<=e.ge/\e.ge<=5/\0<=e.ga/\e.ga<=1000000/\0<=e.to/\e.to<=9999)/\e.a=0/\e.pl=0/\e.se=0
def Bm(l:List Int)(k:Nat):Int:=l.getD k 0
def pos(c:UInt8)(s:List UInt8):Nat:=(s.takeWhile fun b=>b !=c).length
def eA(b:UInt8):Bool:=decide (97<=b.toNat)&&decide (b.toNat<=122)
def dz(b:UInt8):Bool:=(decide (b.toNat=9)||decide (b.toNat=10))||(decide (b.toNat=13)||decide (b.toNat=32))
def ca(b:UInt8):Bool:=eA b ||(bV b ||decide (b.toNat=95))
def aV:Bool->List UInt8->Nat
 |_,[]=>0
 |true,b::r=>if b.toNat=10 then aV false r+1 else aV true r+1
 |false,b::r=>if dz b=true then aV false r+1 else if b.toNat=35 then aV true r+1 else 0
def aP(p:UInt8->Bool):List UInt8->Nat
 |[]=>0
 |b::r=>if p b=true then aP p r+1 else 0
def cQ:List (List UInt8):=[[115,111,114,116],[114,101,108,97,116,105,111,110],[99,111,117,110,116,101,114],[115,101,116],[114,101,103,105,115,116,101,114],[105,110,118,97,114,105,97,110,116],[111,112,101,114,97,116,105,111,110],[107,101,121],[114,101,102,101,114,101,110,99,101],[116,111],[99,111,117,110,116],[97,99,121,99,108,105,99],[97,108,108],[115,117,109],[105,110],[97,100,100,119,105,110,115],[114,101,109,111,118,101,119,105,110,115],[108,97,115,116],[109,117,108,116,105],[104,105,100,101],[111,114,100,101,114,101,100],[114,101,113,117,105,114,101],[104,111,108,100],[105,110,115,101,114,116],[100,101,108,101,116,101],[97,100,100],[102,114,111,109],[112,117,116],[100,114,111,112],[97,115,115,105,103,110],[102,111,114],[119,104,101,114,101],[97,110,100],[111,114],[110,111,116]]
def p_:List (List UInt8):=[[61,61],[33,61],[60,61],[62,61],[46,46],[60],[62],[61],[43],[45],[42],[40],[41],[123],[125],[44],[58],[59]]
def eS:List (List UInt8)->List UInt8->Nat
 |[],_=>0
 |s::r,t=>if s.length<=t.length/\t.take s.length=s then s.length else eS r t
def im(t:List UInt8):Nat:=eS p_ t
def eE:List UInt8->Nat
 |[]=>0
 |b::r=>if(dz b=false/\b.toNat≠35)/\(eA b=false/\bV b=false/\im (b::r)=0)then eE r+1 else 0
def ff:List UInt8->Int×Nat
 |[]=>(0,0)
 |b::r=>
  if eA b=true then(if(b::r).take (aP ca (b::r))∈cQ then 2 else 1,aP ca (b::r))
  else if bV b=true then(3,aP bV (b::r))
  else if 0 <im (b::r)then(4,im (b::r))
  else(5,eE (b::r))
structure Tok where
 kind:Int
 yu:Nat
 at_:Nat
 qJ:Nat
def jP(l:List UInt8):Nat->Nat->List Tok
 |0,_=>[]
 |f+1,q=>if q+aV false (l.drop q)<l.length then⟨(ff (l.drop (q+aV false (l.drop q)))).1,q,q+aV false (l.drop q),q+aV false (l.drop q)+(ff (l.drop (q+aV false (l.drop q)))).2⟩::jP l f (q+aV false (l.drop q)+(ff (l.drop (q+aV false (l.drop q)))).2)else[⟨0,q,l.length,l.length⟩]
def p7(l:List UInt8):List Tok:=jP l (l.length+1) 0
def ou(l:List UInt8):Int:=if 4096 <l.length then 0 else match p7 l with
 |[t,_]=>if t.at_=0/\t.qJ=l.length then t.kind else 0
 |_=>0
def oF(l:List UInt8):Bool:=decide (ou l=1)&&decide (l.length<=16)
theorem rO:∀(c:Bool) (l:List UInt8),aV c l<=l.length
 |_,[]=>by simp[aV]
 |true,b::r=>by
  unfold aV;have h1:=rO false r;have h2:=rO true r;split <;>simp <;>omega
 |false,b::r=>by
  unfold aV;have h1:=rO false r;have h2:=rO true r;split
  ·simp;omega
  ·split <;>simp;omega
theorem rI(p:UInt8->Bool):∀(l:List UInt8),aP p l<=l.length
 |[]=>by simp[aP]
 |b::r=>by
  unfold aP;have h1:=rI p r;split <;>simp;omega
theorem AA:∀(S:List (List UInt8)) (t:List UInt8),eS S t<=t.length
 |[],_=>by simp[eS]
 |s::r,t=>by
  unfold eS;split
  ·rename_i h;exact h.1
  ·exact AA r t
theorem GW:∀(l:List UInt8),eE l<=l.length
 |[]=>by simp[eE]
 |b::r=>by
  unfold eE;have h1:=GW r;split <;>simp;omega
def Rf(b:UInt8)(r:List UInt8):ff (b::r)=if eA b=true then(if(b::r).take (aP ca (b::r))∈cQ then 2 else 1,aP ca (b::r))else if bV b=true then(3,aP bV (b::r))else if 0 <im (b::r)then(4,im (b::r))else(5,eE (b::r)):=by rw[ff]
def PU(l:List UInt8):(ff l).2<=l.length:=by
 cases l with
 |nil=>simp[ff]
 |cons b r=>
  rw[Rf];split
  ·exact rI _ (b::r)
  ·split
   ·exact rI _ (b::r)
   ·split
    ·exact AA _ (b::r)
    ·exact GW (b::r)
def FV:∀(l:List UInt8),∀b r,l.drop (aV false l)=b::r->dz b=false/\b.toNat≠35
 |l=>by
  suffices H:∀(l:List UInt8) (c:Bool) b r,l.drop (aV c l)=b::r->dz b=false/\b.toNat≠35 from H l false
  intro l
  induction l with
  |nil=>intro c b r h;simp[aV]at h
  |cons x l u=>
   intro c b r h
   cases c with
   |true=>
    unfold aV at h;split at h
    ·exact u false b r (by simpa using h)
    ·exact u true b r (by simpa using h)
   |false=>
    unfold aV at h;split at h
    ·exact u false b r (by simpa using h)
    ·split at h
     ·exact u true b r (by simpa using h)
     ·rename_i h1 h2;rw[List.drop_zero,List.cons.injEq]at h;obtain⟨rfl,_⟩:=h;exact⟨by simpa using h1,h2⟩
def PY{b:UInt8}{r:List UInt8}(h1:dz b=false)(h2:b.toNat≠35):0 <(ff (b::r)).2:=by
 rw[Rf];split
 ·rename_i h;have:ca b=true:=by simp[ca,h]
  simp[aP,this]
 ·split
  ·rename_i h;simp[aP,h]
  ·split
   ·rename_i h;exact h
   ·rename_i h3 h4 u;have h3:eA b=false:=by simpa using h3
    have h4:bV b=false:=by simpa using h4
    show 0 <eE (b::r)
    unfold eE;rw[if_pos ⟨⟨h1,h2⟩,h3,h4,by omega⟩];omega
section
variable {α:Type} {l:List α} {q:Nat} {x:α}
def bG(h:l[q]?=some x):l.drop q=x::l.drop (q+1):=by
 obtain⟨u,rfl⟩:=List.getElem?_eq_some_iff.1 h;exact List.drop_eq_getElem_cons u
def eY(h:l.length<=q):l.drop q=[]:=List.drop_of_length_le h
end
section
variable {l:List UInt8} {q:Nat} {b:UInt8}
def FW(h:l[q]?=some b)(hw:dz b=true):aV false (l.drop q)=aV false (l.drop (q+1))+1:=by
 rw[bG h,aV,if_pos hw]
def Pc(h:l[q]?=some b)(hw:dz b=false)(u:b.toNat=35):aV false (l.drop q)=aV true (l.drop (q+1))+1:=by
 rw[bG h,aV,if_neg (by simp[hw]),if_pos u]
def FU(h:l[q]?=some b)(hw:dz b=false)(u:¬b.toNat=35):aV false (l.drop q)=0:=by
 rw[bG h,aV,if_neg (by simp[hw]),if_neg u]
def wv(c:Bool)(h:l.length<=q):aV c (l.drop q)=0:=by
 rw[eY h,aV]
def FT(h:l[q]?=some b)(u:¬b.toNat=10):aV true (l.drop q)=aV true (l.drop (q+1))+1:=by
 rw[bG h,aV,if_neg u]
def Pd(h:l[q]?=some b)(u:b.toNat=10):aV true (l.drop q)=aV false (l.drop q):=by
 rw[bG h,aV,aV,if_pos u,if_pos (by simp[dz,u])]
def Pb(h:l[q]?=some b)(u:b.toNat=35):aV true (l.drop q)=aV false (l.drop q):=by
 rw[FT h (by omega),Pc h (by simp[dz,u]) u]
def Ft{p:UInt8->Bool}(h:l[q]?=some b)(hp:p b=true):aP p (l.drop q)=aP p (l.drop (q+1))+1:=by
 rw[bG h,aP,if_pos hp]
def Fm{p:UInt8->Bool}(h:l[q]?=some b)(hp:p b=false):aP p (l.drop q)=0:=by
 rw[bG h,aP,if_neg (by simp[hp])]
def Fk{p:UInt8->Bool}(h:l.length<=q):aP p (l.drop q)=0:=by
 rw[eY h,aP]
def oZ(l:List UInt8)(q:Nat)(b:UInt8):Bool:=(!dz b&&!decide (b.toNat=35))&&(!eA b&&(!bV b&&decide (im (l.drop q)=0)))
def QB(h:l[q]?=some b)(hp:oZ l q b=true):eE (l.drop q)=eE (l.drop (q+1))+1:=by
 simp only[oZ,bG h,Bool.and_eq_true,Bool.not_eq_true',decide_eq_false_iff_not,decide_eq_true_eq]at hp;rw[bG h,eE,if_pos ⟨hp.1,hp.2.1,hp.2.2.1,hp.2.2.2⟩]
def QA(h:l[q]?=some b)(hp:oZ l q b=false):eE (l.drop q)=0:=by
 rw[bG h,eE,if_neg];rintro⟨h1,h2,h3,h4⟩;rw[<- Bool.not_eq_true]at hp;apply hp;simp only[oZ,bG h,Bool.and_eq_true,Bool.not_eq_true',decide_eq_false_iff_not,decide_eq_true_eq];exact⟨h1,h2,h3,h4⟩
def Qz(h:l.length<=q):eE (l.drop q)=0:=by rw[eY h,eE]
def PV(h:l[q]?=some b):ff (l.drop q)=if eA b=true then(if(l.drop q).take (aP ca (l.drop q))∈cQ then 2 else 1,aP ca (l.drop q))else if bV b=true then(3,aP bV (l.drop q))else if 0 <im (l.drop q)then(4,im (l.drop q))else(5,eE (l.drop q)):=by
 rw[bG h,Rf]
end
def cF(l:List UInt8)(q:Nat):Nat:=q+aV false (l.drop q)
def jw(l:List UInt8)(q:Nat):Nat:=cF l q+(ff (l.drop (cF l q))).2
def xr{l:List UInt8}{q:Nat}(h:q<=l.length):q<=cF l q/\cF l q<=l.length:=by
 have:=rO false (l.drop q);simp at this;unfold cF;omega
def xV{l:List UInt8}{q:Nat}(h:cF l q <l.length):cF l q <jw l q/\jw l q<=l.length:=by
 have h1:=PU (l.drop (cF l q));simp at h1;obtain⟨b,u⟩:∃b,l[cF l q]?=some b:=⟨_,List.getElem?_eq_getElem h⟩
 have h2:(l.drop q).drop (aV false (l.drop q))=b::l.drop (cF l q+1):=by
  rw[List.drop_drop,<- bG u];rfl
 obtain⟨h3,h4⟩:=FV (l.drop q) _ _ h2;have v:=PY (r:=l.drop (cF l q+1)) h3 h4;rw[<- bG u]at v;unfold jw;omega
def Ag{l:List UInt8}{f q:Nat}(h:cF l q <l.length):jP l (f+1) q=⟨(ff (l.drop (cF l q))).1,q,cF l q,jw l q⟩::jP l f (jw l q):=by
 rw[jP,if_pos (by exact h)];rfl
def Af{l:List UInt8}{f q:Nat}(h:¬cF l q <l.length):jP l (f+1) q=[⟨0,q,l.length,l.length⟩]:=by
 rw[jP,if_neg (by exact h)]
theorem FC{l:List UInt8}:∀{f g q:Nat},q<=l.length->l.length <f+q->l.length <g+q->jP l f q=jP l g q
 |0,_,q,h,v,_=>by omega
 |_,0,q,h,_,y=>by omega
 |f+1,g+1,q,h,v,y=>by
  by_cases u:cF l q <l.length
  ·have h1:=xV u;have h2:=(xr h).1;rw[Ag u,Ag u,FC (f:=f) (g:=g) h1.2 (by omega) (by omega)]
  ·rw[Af u,Af u]
def rM(l:List UInt8)(q:Nat):List Tok:=jP l (l.length+1 - q) q
def Oj{l:List UInt8}{q:Nat}(hq:q<=l.length)(h:cF l q <l.length):rM l q=⟨(ff (l.drop (cF l q))).1,q,cF l q,jw l q⟩::rM l (jw l q):=by
 have h1:=xV h;have h2:=(xr hq).1;unfold rM;rw[show l.length+1 - q=(l.length - q)+1 by omega,Ag h,FC (f:=l.length - q) (g:=l.length+1 - jw l q) h1.2 (by omega) (by omega)]
def Oi{l:List UInt8}{q:Nat}(hq:q<=l.length)(h:¬cF l q <l.length):rM l q=[⟨0,q,l.length,l.length⟩]:=by
 unfold rM;rw[show l.length+1 - q=(l.length - q)+1 by omega,Af h]
section
variable {S:List (List UInt8)} {k:Nat} {s t:List UInt8}
def PG(h:S[k]?=some s)(hp:s.length<=t.length/\t.take s.length=s):eS (S.drop k) t=s.length:=by
 rw[bG h,eS,if_pos hp]
def Gp(h:S[k]?=some s)(hp:¬(s.length<=t.length/\t.take s.length=s)):eS (S.drop k) t=eS (S.drop (k+1)) t:=by
 rw[bG h,eS,if_neg hp]
def PF(h:S.length<=k):eS (S.drop k) t=0:=by rw[eY h,eS]
end
structure Tb where
 name:ByteArray
 kind:Int
 au:List Int
 lo:Int
 hi:Int
 first:Int
structure Tm where
 cell:Int
 bZ:Int
deriving DecidableEq
structure Rw where
 bt:List Tm
 jZ:Int
deriving DecidableEq
structure Cn where
 kind:Int
 j_:Int
 row:Rw
 first:Int
 size:Int
structure fX where
 name:ByteArray
 ord:Bool
 ao:List Int
structure bP where
 cell:Int
 add:Int
structure cw where
 kind:Int
 cell:Int
 value:Int
structure k8 where
 delta:List bP
 hold:List Rw
 b7:List cw
structure eF where
 op:Int
 args:List Int
 eff:k8
structure Hde where
 table:Int
 eM:Int
 to:Int
structure Md where
 ao:List Int
 tables:List Tb
 bH:List ByteArray
 cons:List Cn
 ops:List fX
 ax:List eF
 aG:List Hde
section
variable {α:Type} {p:Nat->α->Bool} {l:List α} {q:Nat} {x:α}
def aK(p:Nat->α->Bool):Nat->List α->Bool
 |_,[]=>true
 |i,x::r=>p i x&&aK p (i+1) r
def allI(p:Nat->α->Bool)(l:List α):Bool:=aK p 0 l
def qt(h:l[q]?=some x):aK p q (l.drop q)=(p q x&&aK p (q+1) (l.drop (q+1))):=by rw[bG h];rfl
def cL(h:l.length<=q):aK p q (l.drop q)=true:=by rw[eY h];rfl
theorem A7:∀{l:List α} {q:Nat},aK p q l=true↔∀k x,l[k]?=some x->p (q+k) x=true
 |[],q=>by simp[aK]
 |y::r,q=>by
  unfold aK;rw[Bool.and_eq_true,A7 (l:=r) (q:=q+1)];constructor
  ·rintro⟨h1,h2⟩ k x u
   cases k with
   |zero=>cases u;exact h1
   |succ k=>have:=h2 k x (by simpa using u);rwa[show q+1+k=q+(k+1) by omega]at this
  ·intro h;exact⟨h 0 y rfl,fun k x u=>by have:=h (k+1) x (by simpa using u);rwa[show q+1+k=q+(k+1) by omega]⟩
def eU:allI p l=true↔∀k x,l[k]?=some x->p k x=true:=by
 unfold allI;rw[A7];simp
def o_(f:α->Bool)(h:l[q]?=some x):(l.drop q).any f=(f x ||(l.drop (q+1)).any f):=by rw[bG h];rfl
def o9(f:α->Bool)(h:l.length<=q):(l.drop q).any f=false:=by rw[eY h];rfl
def iT(f:α->Bool)(h:l[q]?=some x):(l.drop q).all f=(f x&&(l.drop (q+1)).all f):=by rw[bG h];rfl
def gT(f:α->Bool)(h:l.length<=q):(l.drop q).all f=true:=by rw[eY h];rfl
end
def gq(s:ByteArray):Bool:=oF s.data.toList
def ck(l:List Int):Bool:=l.all fun n=>decide (1<=n)&&decide (n<=6)
def cr(u:List Int)(c:Int):Bool:=decide (0<=c)&&decide (c <u.length)
def dx(u v:List Int):Int:=v.foldl (fun n c=>n*u.getD c.toNat 0) 1
def bE(u v:List Int):Int:=if(decide (v.length<=3)&&ck u)&&v.all (cr u)then dx u v else 0
def bz(k:Int):Bool:=decide (k=0)||decide (k=1)
def rG(t:Tb):Bool:=(decide (t.lo<=t.hi)&&(decide (-9999<=t.lo)&&decide (t.hi<=9999)))&&(!(decide (t.kind=0)||(decide (t.kind=2)||decide (t.kind=3)))||(decide (t.lo=0)&&decide (t.hi=1)))
def bF(u:List Int)(s:Bool)(l:List Tb):Int:=l.foldl (fun n t=>if bz t.kind=s then n+bE u t.au else n) 0
def io(v:List Int)(l:List Tb)(i:Nat)(t:Tb):Bool:=
 (!(l.take i).any fun u=>decide (u.name=t.name))&&(gq t.name&&((decide (0<=t.kind)&&decide (t.kind<=5))&&(!decide (bE v t.au=0)&&(rG t&&decide (t.first=bF v (bz t.kind) (l.take i))))))
def bJ(u:List Int)(l:List Tb):Bool:=(decide (u.length<=4)&&(ck u&&decide (l.length<=12)))&&(allI (io u l) l&&(decide (bF u true l<=128)&&decide (bF u false l<=64)))
def eC(u:List Int)(s:Bool)(t:Tb):List (Int×Int):=if bz t.kind=s then List.replicate (bE u t.au).toNat (t.lo,t.hi)else[]
def bW(u:List Int)(l:List Tb)(s:Bool):List (Int×Int):=if bJ u l then l.flatMap (eC u s)else[]
def eO(u:List Int)(s:Bool)(c:Int)(t:Tb):Bool:=decide (bz t.kind=s)&&(decide (0<=c)&&(decide (0<=c - t.first)&&decide (c - t.first <bE u t.au)))
def fK(f:Tb->Bool):Nat->List Tb->Option (Nat×Tb)
 |_,[]=>none
 |i,t::r=>if f t=true then some (i,t)else fK f (i+1) r
def fe(u:List Int)(l:List Tb)(s:Bool)(c:Int):Option (Nat×Tb):=if bJ u l then fK (eO u s c) 0 l else none
def u5{f:Tb->Bool}{l:List Tb}{q:Nat}{t:Tb}(h:l[q]?=some t):fK f q (l.drop q)=if f t=true then some (q,t)else fK f (q+1) (l.drop (q+1)):=by rw[bG h];rfl
def CE{f:Tb->Bool}{l:List Tb}{q:Nat}(h:l.length<=q):fK f q (l.drop q)=none:=by rw[eY h];rfl
def ja(u v:List Int):Nat->Int->List Int->List Int
 |0,_,r=>r
 |i+1,k,r=>ja u v i (k.tdiv (u.getD (v.getD i 0).toNat 0)) (r.set i (k.tmod (u.getD (v.getD i 0).toNat 0)))
def pV(u v:List Int)(k:Int):List Int:=ja u v v.length k (List.replicate v.length 0)
def cA(x m:Int):Bool:=decide (-m<=x)&&decide (x<=m)
def fU(n:Int)(l:List Tm)(i:Nat)(t:Tm):Bool:=(decide (0<=t.cell)&&decide (t.cell <n))&&((decide (i=0)||decide ((l.getD (i - 1) ⟨0,0⟩).cell <t.cell))&&(!decide (t.bZ=0)&&cA t.bZ 1000))
def cI(n:Int)(r:Rw):Bool:=allI (fU n r.bt) r.bt&&cA r.jZ 1000000000
def gV(u:List Int)(c:Cn)(t:Tb):Bool:=decide (t.kind=0)&&(decide (t.au.length=2)&&(decide (t.au.getD 0 0=t.au.getD 1 0)&&(decide (t.first=c.first)&&decide (u.getD (t.au.getD 0 0).toNat 0=c.size))))
def jA(m:Md)(c:Cn):Bool:=(decide (c.row.bt.length=0)&&decide (c.row.jZ=0))&&m.tables.any (gV m.ao c)
def nF(i:Nat)(r:Int×Int):Rw:=⟨[⟨i,-1⟩],-r.1⟩
def pZ(i:Nat)(r:Int×Int):Rw:=⟨[⟨i,1⟩],r.2⟩
def QF:Rw:=⟨[],0⟩
def k7:Cn:=⟨0,0,QF,0,0⟩
def mD(cs:List Cn)(i:Nat)(r:Int×Int):Bool:=decide ((cs.getD (2*i) k7).row=nF i r)&&decide ((cs.getD (2*i+1) k7).row=pZ i r)
def jq(m:Md)(n:Nat)(i:Nat)(c:Cn):Bool:=
 (decide (0<=c.j_)&&decide (c.j_ <m.bH.length))&&((decide (c.kind=0)&&(decide (c.first=0)&&(decide (c.size=0)&&cI n c.row)))||(decide (2*n<=i)&&(decide (c.kind=1)&&jA m c)))
def li(m:Md)(l:List (Int×Int)):Bool:=(decide (2*l.length<=m.cons.length)&&decide (m.cons.length<=512))&&(allI (mD m.cons) l&&allI (jq m l.length) m.cons)
def eX(n:Int)(l:List bP)(i:Nat)(t:bP):Bool:=(decide (0<=t.cell)&&decide (t.cell <n))&&((decide (i=0)||decide ((l.getD (i - 1) ⟨0,0⟩).cell <t.cell))&&(!decide (t.add=0)&&cA t.add 1000000000))
def oJ(k:Int):Bool:=decide (k=2)||decide (k=3)
def nJ(u:cw)(t:Tb):Bool:=if oJ t.kind then((decide (u.kind=0)||decide (u.kind=1))&&decide (u.value=0))else(decide (u.kind=2)&&(decide (t.lo<=u.value)&&decide (u.value<=t.hi)))
def gQ(m:Md)(l:List cw)(i:Nat)(u:cw):Bool:=match fe m.ao m.tables false u.cell with
 |some (_,t)=>(decide (i=0)||decide ((l.getD (i - 1) ⟨0,0,0⟩).cell <u.cell))&&nJ u t
 |none=>false
def ll(m:Md)(n:Int)(x:k8):Bool:=(allI (eX n x.delta) x.delta&&(x.hold.all (cI n)&&allI (gQ m x.b7) x.b7))&&(decide (x.hold.length<=8)&&decide (x.b7.length<=32))
def iD:List Int->List Int->Bool
 |x::a,y::b=>if x=y then iD a b else decide (x <y)
 |[],_::_=>true
 |_,[]=>false
def jY(m:Md)(s a:Int):Bool:=if s <0 then cA a 9999 else decide (0<=a)&&decide (a <m.ao.getD s.toNat 0)
def uf:fX:=⟨⟨#[]⟩,false,[]⟩
def fD:eF:=⟨0,[],⟨[],[],[]⟩⟩
def dk(m:Md)(n:Int)(i:Nat)(a:eF):Bool:=
 (((decide (0<=a.op)&&decide (a.op <m.ops.length))&&decide (a.args.length=(m.ops.getD a.op.toNat uf).ao.length))&&allI (fun k x=>jY m ((m.ops.getD a.op.toNat uf).ao.getD k 0) x) a.args)&&
 ((decide (i=0)||(decide ((m.ax.getD (i - 1) fD).op <a.op)||(decide ((m.ax.getD (i - 1) fD).op=a.op)&&iD (m.ax.getD (i - 1) fD).args a.args)))&&ll m n a.eff)
def dT(m:Md)(o:fX):Bool:=(o.ao.all fun s=>decide (-1<=s)&&decide (s <m.ao.length))&&decide (o.ao.length<=3)
def ju(l:List ByteArray)(i:Nat)(s:ByteArray):Bool:=gq s&&!(l.take i).any fun u=>decide (u=s)
def gH(l:List ByteArray):Bool:=allI (ju l) l
def nP(m:Md)(n:Int):Bool:=(m.ops.all (dT m)&&(decide (m.ops.length<=8)&&(gH (m.ops.map (·.name))&&decide (m.ax.length<=256))))&&allI (dk m n) m.ax
def rX:Tb:=⟨⟨#[]⟩,0,[],0,0,0⟩
def qY(i:Int)(n:Nat):Bool:=decide (0<=i)&&decide (i <n)
def eN(m:Md)(h:Hde):Bool:=(qY h.table m.tables.length&&(qY h.to m.tables.length&&!decide (h.table=h.to)))&&
 ((decide ((m.tables.getD h.table.toNat rX).kind=0)&&decide ((m.tables.getD h.to.toNat rX).kind=0))&&(qY h.eM (m.tables.getD h.table.toNat rX).au.length&&(decide ((m.tables.getD h.to.toNat rX).au.length=1)&&decide ((m.tables.getD h.to.toNat rX).au.getD 0 0=(m.tables.getD h.table.toNat rX).au.getD h.eM.toNat 0))))
def b_(l:List Hde):Nat->Int->Int->Bool
 |0,a,b=>decide (a=b)
 |n+1,a,b=>decide (a=b)||l.any fun h=>decide (h.table=a)&&b_ l n h.to b
def gh(m:Md):Bool:=decide (m.aG.length<=12)&&(m.aG.all (eN m)&&m.aG.all fun h=>!b_ m.aG m.tables.length h.to h.table)
def b6(m:Md):Bool:=((bJ m.ao m.tables&&decide (m.bH.length<=24))&&gH m.bH)&&(li m (bW m.ao m.tables true)&&(nP m (bW m.ao m.tables true).length&&gh m))
section
variable {S C:List Int}
def zA{k:Nat}{c:Int}(h:C[k]?=some c):dx S (C.take (k+1))=dx S (C.take k)*S.getD c.toNat 0:=yr _ _ h
def Aq(hs:ck S=true){k:Nat}{n:Int}(h:S[k]?=some n):1<=n/\n<=6:=by
 have:=List.all_eq_true.1 hs n (List.mem_of_getElem? h);simpa using this
def uJ(hs:ck S=true){c:Int}(hc:cr S c=true):1<=S.getD c.toNat 0/\S.getD c.toNat 0<=6:=by
 simp only[cr,Bool.and_eq_true,decide_eq_true_eq]at hc;obtain⟨n,u⟩:∃n,S[c.toNat]?=some n:=⟨_,List.getElem?_eq_getElem (by omega)⟩;rw[fL u];exact Aq hs u
theorem EB(hs:ck S=true):∀(C:List Int) (a b:Int),C.all (cr S)=true->1<=a->a<=b->a<=C.foldl (fun n c=>n*S.getD c.toNat 0) a/\C.foldl (fun n c=>n*S.getD c.toNat 0) a<=b*6^C.length
 |[],a,b,_,_,h=>by simp;exact h
 |c::C,a,b,u,D,y=>by
  simp only[List.all_cons,Bool.and_eq_true]at u;obtain⟨h1,h2⟩:=uJ hs u.1;have z:a*1<=a*S.getD c.toNat 0:=Int.mul_le_mul_of_nonneg_left h1 (by omega);have v:a*S.getD c.toNat 0<=b*6:=Int.mul_le_mul y h2 (by omega) (by omega);have:=EB hs C (a*S.getD c.toNat 0) (b*6) u.2 (by omega) v;rw[List.foldl_cons,List.length_cons,Int.pow_succ];rw[Int.mul_assoc,Int.mul_comm 6]at this;exact⟨by omega,this.2⟩
def nC(hs:ck S=true)(hc:C.all (cr S)=true)(hl:C.length<=3):1<=dx S C/\dx S C<=216:=by
 have h:=EB hs C 1 1 hc (by omega) (by omega);refine⟨h.1,Int.le_trans h.2 ?_⟩;have:C.length=0\/C.length=1\/C.length=2\/C.length=3:=by omega
 rcases this with e|e|e|e <;>rw[e]<;>decide
def oG(S C:List Int):0<=bE S C/\bE S C<=216:=by
 unfold bE;split
 ·rename_i h;simp only[Bool.and_eq_true,decide_eq_true_eq]at h;have:=nC h.1.2 h.2 (by omega);omega
 ·omega
theorem xH(s:Bool):∀(l:List Tb) (a:Int),0<=a->a<=l.foldl (fun n t=>if bz t.kind=s then n+bE S t.au else n) a/\l.foldl (fun n t=>if bz t.kind=s then n+bE S t.au else n) a<=a+216*l.length
 |[],a,h=>by simp
 |t::l,a,h=>by
  have u:=oG S t.au;rw[List.foldl_cons,List.length_cons];split
  ·have:=xH s l (a+bE S t.au) (by omega);omega
  ·have:=xH s l a h;omega
def mj(s:Bool)(l:List Tb):0<=bF S s l/\bF S s l<=216*l.length:=by
 have:=xH (S:=S) s l 0 (by omega);unfold bF;omega
def uI(s:Bool){l:List Tb}{k:Nat}{t:Tb}(h:l[k]?=some t):bF S s (l.take (k+1))=if bz t.kind=s then bF S s (l.take k)+bE S t.au else bF S s (l.take k):=yr _ _ h
end
def sQ{α β:Type}{f:α->List β}{l:List α}{q:Nat}{x:α}(h:l[q]?=some x):(l.take (q+1)).flatMap f=(l.take q).flatMap f++f x:=by
 rw[List.take_add_one,h];simp
def EL{α:Type}(n:Nat)(x:α):List.replicate (n+1) x=List.replicate n x++[x]:=List.replicate_succ'
def NK(S:List Int)(s:Bool)(t:Tb):(eC S s t).length=if bz t.kind=s then(bE S t.au).toNat else 0:=by
 unfold eC;split <;>simp
theorem EV(S:List Int)(s:Bool):∀(l:List Tb) (a:Int),a+(l.flatMap (eC S s)).length=l.foldl (fun n t=>if bz t.kind=s then n+bE S t.au else n) a
 |[],a=>by simp
 |t::l,a=>by
  have y:=oG S t.au;have u:=NK S s t;have v:=EV S s l (if bz t.kind=s then a+bE S t.au else a);rw[List.flatMap_cons,List.foldl_cons,<- v,List.length_append,u];split <;>omega
def vZ(S:List Int)(s:Bool)(l:List Tb):((l.flatMap (eC S s)).length:Int)=bF S s l:=by
 have:=EV S s l 0;unfold bF;omega
def EW(S:List Int)(s:Bool)(l:List Tb):(l.flatMap (eC S s)).length<=216*l.length:=by
 have:=vZ S s l;have:=mj (S:=S) s l;omega
def Dj{S:List Int}{L:List Tb}(h:bJ S L=true):bF S true L<=128/\bF S false L<=64:=by
 simp only[bJ,Bool.and_eq_true,decide_eq_true_eq]at h;exact⟨h.2.2.1,h.2.2.2⟩
def kK{S:List Int}{L:List Tb}(h:bJ S L=true):S.length<=4/\L.length<=12:=by
 simp only[bJ,Bool.and_eq_true,decide_eq_true_eq]at h;exact⟨h.1.1,h.1.2.2⟩
def tf{S:List Int}{L:List Tb}(h:bJ S L=true):ck S=true:=by
 simp only[bJ,Bool.and_eq_true,decide_eq_true_eq]at h;exact h.1.2.1
def rf{S:List Int}{L:List Tb}(h:bJ S L=true){k:Nat}{t:Tb}(ht:L[k]?=some t):io S L k t=true:=by
 simp only[bJ,Bool.and_eq_true]at h;exact eU.1 h.2.1 k t ht
def EY(S:List Int)(L:List Tb)(s:Bool):(bW S L s).length<=128:=by
 unfold bW;split
 ·rename_i h;have h1:=vZ S s L;have h2:=Dj h;cases s <;>omega
 ·simp
def L_{S C:List Int}(h:bE S C≠0):C.length<=3/\ck S=true/\C.all (cr S)=true:=by
 unfold bE at h;split at h
 ·rename_i u;simpa[Bool.and_eq_true,and_assoc]using u
 ·exact absurd rfl h
def lD{S:List Int}{L:List Tb}(h:bJ S L=true){k:Nat}{t:Tb}(ht:L[k]?=some t):t.au.length<=3/\ck S=true/\t.au.all (cr S)=true:=by
 have h1:=rf h ht;simp only[io,Bool.and_eq_true,Bool.not_eq_true',decide_eq_false_iff_not]at h1;exact L_ h1.2.2.2.1
def Dk{S:List Int}{L:List Tb}(h:bJ S L=true){k:Nat}{t:Tb}(ht:L[k]?=some t):t.lo<=t.hi/\ -9999<=t.lo/\t.hi<=9999:=by
 have h1:=rf h ht;simp only[io,rG,Bool.and_eq_true,Bool.not_eq_true',decide_eq_false_iff_not,decide_eq_true_eq]at h1;exact h1.2.2.2.2.1.1
def NL{S:List Int}{L:List Tb}{s:Bool}{r:Int×Int}(hr:r∈bW S L s):r.1<=r.2/\ -9999<=r.1/\r.2<=9999:=by
 unfold bW at hr;split at hr
 ·rename_i h;obtain⟨t,y,u⟩:=List.mem_flatMap.1 hr;obtain⟨k,v,rfl⟩:=List.getElem_of_mem y;unfold eC at u;split at u
  ·obtain⟨_,rfl⟩:=List.mem_replicate.1 u;exact Dk h (List.getElem?_eq_getElem v)
  ·cases u
 ·cases hr
theorem wY{S:List Int}{s:Bool}{c:Int}:∀{l:List Tb} {q i:Nat} {t:Tb},fK (eO S s c) q l=some (i,t)->q<=i/\l[i - q]?=some t/\eO S s c t=true
 |[],_,_,_,h=>by cases h
 |u::l,q,i,t,h=>by
  unfold fK at h;split at h
  ·rename_i v;cases h;exact⟨Nat.le_refl _,by simp,v⟩
  ·obtain⟨h1,h2,h3⟩:=wY h;refine⟨by omega,?_,h3⟩;rw[show i - q=(i - (q+1))+1 by omega];simpa using h2
def PJ{S:List Int}{L:List Tb}{s:Bool}{c:Int}{i:Nat}{t:Tb}(h:fe S L s c=some (i,t)):bJ S L=true/\L[i]?=some t/\eO S s c t=true:=by
 unfold fe at h;split at h
 ·rename_i u;have:=wY h;exact⟨u,this.2.1,this.2.2⟩
 ·cases h
section
variable {α:Type}
structure QL (lt:α->α->Bool):Prop where
 QQ:∀a b,lt a b=true->lt b a=false
 QR:∀a b c,lt a b=false->lt b c=false->lt a c=false
variable (lt:α->α->Bool)
def Rs:List α->List α->List α
 |[],b=>b
 |x::a,[]=>x::a
 |x::a,y::b=>if lt y x=true then y::Rs (x::a) b else x::Rs a (y::b)
termination_by a b=>a.length+b.length
def Sc(x:α)(l:List α):List α:=Rs lt l [x]
def RJ(l:List α):List α:=l.foldl (fun o x=>Sc lt x o) []
variable {lt}
end
def sg(a b:Int):Int:=if a <b then -1 else if b <a then 1 else 0
def RO(a b:Ev):Bool:=if a.t=b.t then(if a.r=b.r then decide (a.n <b.n)else decide (a.r <b.r))else decide (a.t <b.t)
section
variable {α:Type} (lt:α->α->Bool)
end
section
variable {α:Type}
end
def nm(e:Ev):Int×Int:=(e.r,e.n)
def j7:Nat->List Int->List (Int×Int)
 |_,[]=>[]
 |r,n::c=>(List.range n.toNat).map (fun i:Nat=>((r:Int),(i:Int)+1))++j7 (r+1) c
def qw(a b:Ev):Bool:=ew a&&(ew b&&hasS b.past a.r a.n)
structure ClosedP (l:List Ev):Prop where
 gb:l.length<=1024
 form:∀e∈l,ew e=true
 alike:∀e∈l,∀x∈l,e.past.length=x.past.length
 names:(l.map nm).Nodup
 down:∀e∈l,∀r n,hasS e.past r n=true->∃x∈l,nm x=(r,n)/\C3 x.past e.past=true/\x.t <e.t
open Classical in
section
open Classical
end
theorem xP{p:Int×Int}:∀(c:List Int) (r:Nat),p∈j7 r c↔∃k,k <c.length/\p.1=(r+k:Nat)/\1<=p.2/\p.2<=c.getD k 0
 |[],r=>by simp[j7]
 |n::c,r=>by
  rw[j7,List.mem_append,xP c (r+1)];constructor
  ·rintro(h|⟨k,h1,h2,h3,h4⟩)
   ·simp only[List.mem_map,List.mem_range]at h;obtain⟨i,u,rfl⟩:=h;refine⟨0,by simp,by simp,by dsimp only;omega,?_⟩;show(i:Int)+1<=n
    omega
   ·refine⟨k+1,by simp;omega,by omega,h3,?_⟩;simpa using h4
  ·rintro⟨k,h1,h2,h3,h4⟩
   cases k with
   |zero=>
    left
    have h4:p.2<=n:=by simpa using h4
    simp only[List.mem_map,List.mem_range];refine⟨(p.2 - 1).toNat,by omega,?_⟩;obtain⟨v,y⟩:=p;simp only[Prod.mk.injEq];simp at h2 h3;constructor <;>omega
   |succ k=>
    right
    exact⟨k,by simp at h1;omega,by omega,h3,by simpa using h4⟩
def xO{c:List Int}(hv:je c=true){r n:Int}:(r,n)∈j7 0 c↔hasS c r n=true:=by
 rw[xP];unfold hasS;simp only[hv,Bool.true_and,Bool.and_eq_true,decide_eq_true_eq];constructor
 ·rintro⟨k,h1,h2,h3,h4⟩;have h2:r=(k:Int):=by simpa using h2
  subst h2;exact⟨by omega,by omega,h3,by simpa using h4⟩
 ·rintro⟨h1,h2,h3,h4⟩;exact⟨r.toNat,by omega,by simp;omega,h3,h4⟩
theorem D5{α β:Type}{f:α->β}(hf:∀a b,f a=f b->a=b):∀{l:List α},l.Nodup->(l.map f).Nodup
 |[],_=>List.nodup_nil
 |x::l,h=>by
  have h:=List.nodup_cons.1 h;rw[List.map_cons,List.nodup_cons];refine⟨fun v=>?_,D5 hf h.2⟩;obtain⟨y,u,e⟩:=List.mem_map.1 v;rw[hf _ _ e]at u;exact h.1 u
theorem B8:∀(c:List Int) (r:Nat),(j7 r c).Nodup
 |[],r=>List.nodup_nil
 |n::c,r=>by
  rw[j7,List.nodup_append];refine⟨D5 (fun a b h=>by simp only[Prod.mk.injEq]at h;omega) List.nodup_range,B8 c (r+1),fun a u b v e=>?_⟩;subst e;obtain⟨i,_,rfl⟩:=List.mem_map.1 u;obtain⟨k,_,h2,_⟩:=(xP c (r+1)).1 v;dsimp only at h2;omega
theorem foldl_add:∀(c:List Int) (a:Int),c.foldl (·+·) a=a+c.foldl (·+·) 0
 |[],a=>by simp
 |x::c,a=>by
  rw[List.foldl_cons,List.foldl_cons,foldl_add c (a+x),foldl_add c (0+x)];omega
theorem B7:∀(c:List Int) (r:Nat),(∀n∈c,0<=n)->((j7 r c).length:Int)=Az c
 |[],r,_=>rfl
 |n::c,r,h=>by
  have u:=B7 c (r+1) (fun x v=>h x (by simp[v]));have y:=h n (by simp);rw[j7,List.length_append,List.length_map,List.length_range];unfold Az at u⊢;rw[List.foldl_cons,foldl_add c (0+n),<- u];omega
section
variable {α:Type} [DecidableEq α]
theorem vJ:∀{L D:List α},L.Nodup->(∀x∈L,x∈D)->L.length<=D.length/\(L.length=D.length->∀x∈D,x∈L)
 |[],D,_,_=>⟨by simp,fun h x u=>by
  have:D=[]:=List.length_eq_zero_iff.1 (by simpa using h.symm);subst this;cases u⟩
 |y::L,D,J,hs=>by
  have I:=hs y (by simp);have v:=List.nodup_cons.1 J;have z:=List.length_erase_of_mem I;have G:0 <D.length:=List.length_pos_of_mem I;have V:=vJ (L:=L) (D:=D.erase y) v.2 (fun x u=>(List.mem_erase_of_ne (fun e=>by subst e;exact v.1 u)).2 (hs x (by simp[u])));refine⟨by simp;omega,fun U x u=>?_⟩;by_cases e:x=y
  ·simp[e]
  ·have:=V.2 (by simp at U;omega) x ((List.mem_erase_of_ne e).2 u);simp[this]
def LW{L D:List α}{p:α->Bool}(hp:∀x,p x=true↔x∈D)(z:L.Nodup)(y:D.Nodup):L.countP p=D.length↔∀x∈D,x∈L:=by
 rw[List.countP_eq_length_filter];have v:(L.filter p).Nodup:=z.filter _;have hs:∀x∈L.filter p,x∈D:=fun x u=>(hp x).1 (List.mem_filter.1 u).2;constructor
 ·intro h x u;exact(List.mem_filter.1 ((vJ v hs).2 h x u)).1
 ·intro h;have h1:=(vJ v hs).1;have h2:=(vJ (L:=D) (D:=L.filter p) y (fun x u=>List.mem_filter.2 ⟨h x u,(hp x).2 u⟩)).1;omega
end
def Jv{e:Ev}(h:ew e=true):je e.past=true:=by
 simp only[ew,oh,Bool.and_eq_true]at h;exact h.1.1
def Ql{c:List Int}(h:je c=true):∀n∈c,0<=n:=fun n v=>by
 obtain⟨k,u,rfl⟩:=List.mem_iff_getElem.1 v;exact(D8 h (List.getElem?_eq_getElem u)).1
def vH(l:List Ev)(e:Ev):Nat:=l.countP fun x=>qw x e
def DV{l:List Ev}(hf:∀e∈l,ew e=true)(hn:(l.map nm).Nodup){e:Ev}(he:ew e=true):(vH l e:Int)=uK e.past↔∀r n,hasS e.past r n=true->∃x∈l,nm x=(r,n):=by
 have u:=Jv he;have h1:uK e.past=((j7 0 e.past).length:Int):=by rw[uK,if_pos u,B7 _ _ (Ql u)]
 have h2:vH l e=(l.map nm).countP (fun p=>decide (p∈j7 0 e.past)):=by
  unfold vH;rw[List.countP_map];refine List.countP_congr fun x v=>?_;simp only[qw,hf x v,he,Bool.true_and,Function.comp,decide_eq_true_eq];exact(xO u).symm
 rw[h1,h2];have:=LW (p:=fun p=>decide (p∈j7 0 e.past)) (fun x=>decide_eq_true_iff) hn (B8 e.past 0);constructor
 ·intro h r n z;have:=this.1 (by omega) (r,n) ((xO u).2 z);obtain⟨x,v,y⟩:=List.mem_map.1 this;exact⟨x,v,y⟩
 ·intro h
  have:=this.2 (fun p D=>by
   obtain⟨x,v,y⟩:=h p.1 p.2 ((xO u).1 D);exact List.mem_map.2 ⟨x,v,y⟩)
  omega
def L8{l:List Ev}(hn:(l.map nm).Nodup):∀{x y:Ev},x∈l->y∈l->nm x=nm y->x=y:=by
 induction l with
 |nil=>intro x y u;cases u
 |cons z l D=>
  intro x y u v e;rw[List.map_cons,List.nodup_cons]at hn;rcases List.mem_cons.1 u with h1|h1 <;>rcases List.mem_cons.1 v with h2|h2
  ·rw[h1,h2]
  ·subst h1;exact absurd (List.mem_map.2 ⟨y,h2,e.symm⟩) hn.1
  ·subst h2;exact absurd (List.mem_map.2 ⟨x,h1,e⟩) hn.1
  ·exact D hn.2 h1 h2 e
structure AX (l:List Ev) (e:Ev):Prop where
 inside:∀x∈l,qw x e=true->C3 x.past e.past=true/\x.t <e.t
 count:(vH l e:Int)=uK e.past
def Ie{l:List Ev}(Z:l.length<=1024)(u:∀e∈l,ew e=true)(D:∀e∈l,∀x∈l,e.past.length=x.past.length)(v:(l.map nm).Nodup):ClosedP l↔∀e∈l,AX l e:=by
 constructor
 ·intro h e z;have hf:=u e z;refine⟨fun x G J=>?_,(DV u v hf).2 fun r n U=>?_⟩
  ·simp only[qw,Bool.and_eq_true]at J;obtain⟨y,hy,V,h1,h2⟩:=h.down e z _ _ J.2.2;obtain rfl:=L8 v hy G V;exact⟨h1,h2⟩
  ·obtain⟨x,G,I,_⟩:=h.down e z r n U;exact⟨x,G,I⟩
 ·intro h;refine⟨Z,u,D,v,fun e z r n U=>?_⟩;obtain⟨x,G,I⟩:=(DV u v (u e z)).1 (h e z).count r n U
  have J:qw x e=true:=by
   simp only[nm,Prod.mk.injEq]at I;simp[qw,u x G,u e z,I.1,I.2,U]
  exact⟨x,G,I,(h e z).inside x G J⟩
section
variable {α:Type} {lt:α->α->Bool}
end
section
variable {l:List Ev} (h:ClosedP l)
include h
end
def getD_set_ne{l:List Int}{i j:Nat}{x:Int}(h:i≠j):(l.set i x).getD j 0=l.getD j 0:=by
 rw[List.getD_eq_getElem?_getD,List.getD_eq_getElem?_getD,List.getElem?_set_ne h]
structure Wr where
 e:Ev
 u:cw
def lJ(S:List Int)(t:Tb):List Tb:=if bz t.kind=true then[]else List.replicate (bE S t.au).toNat t
def lI(S:List Int)(l:List Tb):List Tb:=l.flatMap (lJ S)
section
variable {W:List Wr} {w:Wr} (h1:∀x∈W,hasS w.e.past x.e.r x.e.n=true) (h2:∀x∈W,hasS x.e.past w.e.r w.e.n=false) (h3:hasS w.e.past w.e.r w.e.n=false) (h4:∀x∈W,x.e.t <w.e.t)
include h2 h3 in
end
def kY(l:List Hde)(O:List Int)(t:Int):Bool:=!l.any fun h=>decide (h.table=t)&&decide (h.to∈O)
def An{l:List Hde}{O:List Int}{t:Int}:kY l O t=true↔∀h∈l,h.table=t->h.to∉O:=by
 unfold kY;rw[Bool.not_eq_true',<- Bool.not_eq_true,List.any_eq_true];constructor
 ·intro h x v z y;exact h ⟨x,v,by simp[z,y]⟩
 ·rintro h ⟨x,v,u⟩;simp only[Bool.and_eq_true,decide_eq_true_eq]at u;exact h x v u.1 u.2
def vC{l:List Hde}{a b:Int}:b_ l 0 a b=true↔a=b:=by simp[b_]
def nv{l:List Hde}{n:Nat}{a b:Int}:b_ l (n+1) a b=true↔a=b\/∃h∈l,h.table=a/\b_ l n h.to b=true:=by
 show(decide (a=b)||l.any fun h=>decide (h.table=a)&&b_ l n h.to b)=true↔_
 rw[Bool.or_eq_true,decide_eq_true_eq,List.any_eq_true];simp only[Bool.and_eq_true,decide_eq_true_eq]
def oz{l:List Hde}(n:Nat)(a:Int):b_ l n a a=true:=by
 cases n with
 |zero=>exact vC.2 rfl
 |succ n=>exact nv.2 (.inl rfl)
theorem Dr{l:List Hde}{h:Hde}(hh:h∈l):∀{n:Nat} {a:Int},b_ l n a h.table=true->b_ l (n+1) a h.to=true
 |0,a,u=>by
  have:=vC.1 u;exact nv.2 (.inr ⟨h,hh,this.symm,oz _ _⟩)
 |n+1,a,u=>by
  rcases nv.1 u with rfl|⟨x,hx,ht,hl'⟩
  ·exact nv.2 (.inr ⟨h,hh,rfl,oz _ _⟩)
  ·exact nv.2 (.inr ⟨x,hx,ht,Dr hh hl'⟩)
def ru(l:List Hde)(h:Hde)(x:Int):Prop:=(∃i,b_ l i h.to x=true)/\∃j,b_ l j x h.table=true
def Ea{l:List Hde}{h:Hde}{n:Nat}(hh:h∈l)(hc:b_ l n h.to h.table=true){x:Int}(hx:ru l h x):∃g∈l,g.table=x/\ru l h g.to:=by
 obtain⟨⟨i,v⟩,j,u⟩:=hx
 cases j with
 |zero=>
  have:=vC.1 u;exact⟨h,hh,this.symm,⟨0,oz _ _⟩,n,hc⟩
 |succ j=>
  rcases nv.1 u with rfl|⟨g,hg,hgt,hgl⟩
  ·exact⟨h,hh,rfl,⟨0,oz _ _⟩,n,hc⟩
  ·exact⟨g,hg,hgt,⟨i+1,Dr hg (by rw[hgt];exact v)⟩,j,hgl⟩
def Mg{l:List Hde}{h:Hde}{n:Nat}(hh:h∈l)(hc:b_ l n h.to h.table=true){O:List Int}(y:∀x,ru l h x->x∈O){t:Int}(ht:ru l h t):kY l O t=false:=by
 rw[<- Bool.not_eq_true,An];intro hs;obtain⟨g,z,v,u⟩:=Ea hh hc ht;exact hs g z v (y _ u)
def Mh{l:List Hde}{h:Hde}{n:Nat}(hc:b_ l n h.to h.table=true):ru l h h.table:=⟨⟨n,hc⟩,0,oz _ _⟩
theorem zm:∀(n:Nat) (l:List Int),l.Nodup->(∀x∈l,0<=x/\x <(n:Int))->l.length<=n
 |0,[],_,_=>Nat.le_refl _
 |0,x::l,_,h=>by have:=h x (by simp);omega
 |n+1,l,hd,h=>by
  have h1:(l.erase (n:Int)).length<=n:=zm n _ (hd.erase _) fun x u=>by
   have h2:=(hd.mem_erase_iff).1 u;have h3:=h x h2.2;omega
  have h4:=List.length_erase (a:=(n:Int)) (l:=l);split at h4 <;>omega
theorem D4:∀{w:List Int},(∀(i j:Nat) (x:Int),i <j->w[i]?=some x->w[j]?=some x->False)->w.Nodup
 |[],_=>List.nodup_nil
 |x::w,h=>List.nodup_cons.2 ⟨fun D=>by
   obtain⟨j,u⟩:=List.mem_iff_getElem?.1 D;exact h 0 (j+1) x (by omega) rfl (by simpa using u),D4 fun i j y z v u=>h (i+1) (j+1) y (by omega) (by simpa using v) (by simpa using u)⟩
theorem GP{l:List Hde}{O:List Int}(v:∀t∈O,kY l O t=false):∀(k:Nat) (t:Int),t∈O->∃w:List Int,w.length=k+1/\w.head?=some t/\(∀x∈w,x∈O)/\∀i x y,w[i]?=some x->w[i+1]?=some y->∃g∈l,g.table=x/\g.to=y
 |0,t,z=>⟨[t],rfl,rfl,by simpa using z,fun i x y h1 h2=>by simp at h2⟩
 |k+1,t,z=>by
  have hs:=v t z;rw[<- Bool.not_eq_true,An]at hs
  have:∃h∈l,h.table=t/\h.to∈O:=by
   apply Classical.byContradiction;intro hn;exact hs fun h Z I J=>hn ⟨h,Z,I,J⟩
  obtain⟨g,V,G,D⟩:=this;obtain⟨w,h1,h2,h3,h4⟩:=GP v k g.to D;refine⟨t::w,by simp[h1],rfl,fun x u=>?_,fun i x y u U=>?_⟩
  ·rcases List.mem_cons.1 u with rfl|u
   ·exact z
   ·exact h3 x u
  ·cases i with
   |zero=>
    simp at u U;subst u;refine⟨g,V,G,?_⟩;have:w.head?=some y:=by rw[<- U];cases w <;>rfl
    rw[h2]at this;exact Option.some.inj this
   |succ i=>exact h4 i x y (by simpa using u) (by simpa using U)
theorem GO{l:List Hde}{w:List Int}(h4:∀i x y,w[i]?=some x->w[i+1]?=some y->∃g∈l,g.table=x/\g.to=y):∀(d i:Nat) (x y:Int),w[i]?=some x->w[i+d]?=some y->b_ l d x y=true
 |0,i,x,y,I,u=>by
  rw[Nat.add_zero,I]at u;cases u;exact oz _ _
 |d+1,i,x,y,I,u=>by
  have G:i+1 <w.length:=by have:=aC u;omega
  obtain⟨z,J⟩:=am G;obtain⟨g,U,D,v⟩:=h4 i x z I J;exact nv.2 (.inr ⟨g,U,D,GO h4 d (i+1) g.to y (by rw[v];exact J) (by rw[show i+1+d=i+(d+1) by omega];exact u)⟩)
theorem Dt{l:List Hde}:∀{n m:Nat} {a b:Int},n<=m->b_ l n a b=true->b_ l m a b=true
 |0,m,a,b,_,h=>by rw[vC.1 h];exact oz _ _
 |n+1,0,a,b,h,_=>by omega
 |n+1,m+1,a,b,u,h=>by
  rcases nv.1 h with rfl|⟨g,hg,hgt,hgl⟩
  ·exact oz _ _
  ·exact nv.2 (.inr ⟨g,hg,hgt,Dt (by omega) hgl⟩)
def JR{l:List Hde}{n:Nat}(I:∀h∈l,b_ l n h.to h.table=false){O:List Int}(hO:∀t∈O,0<=t/\t <n)(ab:O≠[]):∃t∈O,kY l O t=true:=by
 apply Classical.byContradiction;intro hn
 have ad:∀t∈O,kY l O t=false:=fun t ht=>by
  rw[<- Bool.not_eq_true];exact fun h=>hn ⟨t,ht,h⟩
 obtain⟨t,D,rfl⟩:∃t D,O=t::D:=by
  cases O with
  |nil=>exact absurd rfl ab
  |cons t D=>exact⟨t,D,rfl⟩
 obtain⟨w,h1,_,h3,h4⟩:=GP ad n t (by simp)
 have Z:¬w.Nodup:=fun hd=>by
  have:=zm n w hd fun x hx=>hO x (h3 x hx);omega
 have:∃(i j:Nat) (x:Int),i <j/\w[i]?=some x/\w[j]?=some x:=by
  apply Classical.byContradiction;intro z;exact Z (D4 fun i j x v V G=>z ⟨i,j,x,v,V,G⟩)
 obtain⟨i,j,x,v,V,G⟩:=this;have ag:=aC G;obtain⟨y,hy⟩:=am (xs:=w) (k:=i+1) (by omega);obtain⟨g,hg,U,J⟩:=h4 i x y V hy;have hl:=GO h4 (j - (i+1)) (i+1) y x hy (by rw[show i+1+(j - (i+1))=j by omega];exact G);have u:=Dt (m:=n) (by omega) hl;rw[<- U,<- J]at u;rw[I g hg]at u;cases u
def xd(l:List Hde)(n:Nat)(O:List Int):Prop:=∀h∈l,b_ l n h.to h.table=true->∀x,ru l h x->x∈O
structure k_ (l:List Hde) (n:Nat) (O seen cur:List Int):Prop where
 sub:cur.Sublist O
 gone:∀t∈seen,kY l O t=true->t∉cur
 m_:xd l n O->xd l n cur
def k_.start{l:List Hde}{n:Nat}{O:List Int}:k_ l n O [] O:=⟨List.Sublist.refl _,fun _ h=>absurd h (by simp),id⟩
def Pa{l:List Hde}{O u:List Int}{t:Int}(h:∀x∈u,x∈O)(hs:kY l O t=true):kY l u t=true:=by
 rw[An]at hs⊢;exact fun g z v y=>hs g z v (h _ y)
def k_.gY{l:List Hde}{n:Nat}{O u v:List Int}{t:Int}(h:k_ l n O u v)(hs:kY l v t=false):k_ l n O (t::u) v where
 sub:=h.sub
 gone:=fun x z D=>by
  rcases List.mem_cons.1 z with rfl|z
  ·exact absurd (Pa (fun y G=>h.sub.subset G) D) (by rw[hs];decide)
  ·exact h.gone x z D
 m_:=h.m_
def k_.drop{l:List Hde}{n:Nat}{O v y:List Int}{t:Int}(h:k_ l n O v y)(hs:kY l y t=true):k_ l n O (t::v) (y.filter fun x=>!decide (x=t)) where
 sub:=(List.filter_sublist).trans h.sub
 gone:=fun x z D V=>by
  obtain⟨J,U⟩:=List.mem_filter.1 V;rcases List.mem_cons.1 z with rfl|z
  ·simp at U
  ·exact h.gone x z D J
 m_:=fun D g I G x z=>by
  have u:=h.m_ D;refine List.mem_filter.2 ⟨u g I G x z,?_⟩
  have:x≠t:=by
   rintro rfl;rw[Mg I G (u g I G) z]at hs;cases hs
  simpa using this
structure mP (l:List Hde) (n k:Nat) (O:List Int):Prop where
 xM:O.Nodup
 zV:∀t∈O,0<=t/\t <n
 gb:(∀h∈l,b_ l n h.to h.table=false)->O.length<=l.length - k
 m_:xd l n O
def mP.pass{l:List Hde}{n k:Nat}{O v u:List Int}(h:mP l n k O)(y:k_ l n O v u)(D:∀t∈u,t∈v):mP l n (k+1) u where
 xM:=y.sub.nodup h.xM
 zV:=fun t I=>h.zV t (y.sub.subset I)
 gb:=fun z=>by
  have V:=h.gb z;have ab:=y.sub.length_le;rcases Nat.lt_or_ge u.length O.length with Z|U
  ·omega
  ·have J:u=O:=y.sub.eq_of_length (by omega);by_cases G:O=[]
   ·rw[J,G];simp
   ·obtain⟨t,I,hs⟩:=JR z h.zV G;exact absurd I (by rw[<- J];exact y.gone t (D t (by rw[J];exact I)) hs)
 m_:=y.m_ h.m_
def mP.done{l:List Hde}{n:Nat}{O:List Int}(h:mP l n l.length O):decide (O.length=0)=l.all fun g=>!b_ l n g.to g.table:=by
 cases z:l.all fun g=>!b_ l n g.to g.table with
 |true=>
  have y:∀g∈l,b_ l n g.to g.table=false:=fun g u=>by simpa using List.all_eq_true.1 z g u
  have:=h.gb y;exact decide_eq_true (by omega)
 |false=>
  rw[<- Bool.not_eq_true,List.all_eq_true]at z
  have:∃g∈l,b_ l n g.to g.table=true:=by
   apply Classical.byContradiction;intro I;apply z;intro g u
   cases v:b_ l n g.to g.table with
   |false=>rfl
   |true=>exact absurd ⟨g,u,v⟩ I
  obtain⟨g,u,v⟩:=this;have D:=h.m_ g u v _ (Mh v);have:O.length≠0:=by intro G;rw[List.length_eq_zero_iff.1 G]at D;cases D
  simpa using this
end Go.Proofs.YtcgdbhlnkificaaGreatDoor
